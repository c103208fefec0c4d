/-
  NARROWER THAN 'FOR EVERY INPUT', by the rows' own cells (each row's printed sentence says how): TopOnce: laid · TopReports: laid.
  DERIVED. THE GIVEN ROWS OF THIS SEAT. 2 by the template 'for every input the law returns true; each argument reads behind the call as it read before'; 0 by the template 'total and deterministic' (their statements: YtlhlmflacdeafaaGreatDoorTotals.lean).
  GIVEN WITH THE SEED: the statements are not yours to turn. If you find one false, say at which input.
  Laid BY PROGRAM, IN A SANDBOX (cutbox-rows.mjs): the forced cells as the released guide's own fill.sh prints them over the translation dec9c3a92ad86e10… (all of the seat's roots in one cut). By AI agents, Wed Nov 11 2026. No macro, syntax, notation, axiom, sorry.
-/
import Derived.Test.YtlhlmflacdeafaaGreatDoorChecked
import GoSem.Claim
import GoSem.ClaimJoined
import GoSem.ClaimMapViews
import Derived.JoinedTies
import Derived.KernelRfl
namespace Go.Proofs.YtlhlmflacdeafaaGreatDoor
/- THE CELL 'sum', in the pinned program and in every row, IS THE sha256 OF THE DUMP (.gsa) THAT YtlhlmflacdeafaaGreatDoorProg.lean LOADS. Nothing in Lean hashes anything: it is a label: what it is worth is what the hold of that sum in a sandbox is worth. -/
noncomputable def Tryz.pinned : Pinned := { name := "ytlhlmflacdeafaagreatdoor", sum := "dec9c3a92ad86e10418bf318f8d0dc6d947cf2792b1dcccb3abcc3336916dc73", checked := Tryz.checked }
namespace Rows
def none {H : Type} : Left H := { results := [], args := [] }

/- WHAT THE LISTED PACKAGE-LEVEL VARIABLES READ AS WHEN THE CALL BEGINS. Each datum BY PROGRAM (the guide's laid-datum.mjs) off the statement by which the dump's own 'gosem.cut.vars' lays the variable. In a bare row this is a premise. The card (YtlhlmflacdeafaaGreatDoorCards.lean) ties it to the program's text. -/
def laid_dromond_asb_errForm {H : Type} : DataW H := .iface "*errors.errorString" (.ptr (.agg [.lit (.string [102, 111, 114, 109])]))

/-- 'dromondtop.TopOnce': WHATEVER THE INPUT: true; the input reads as it did. -/
def topOnceSpec : ChangeSpec := { name := "topOnce", fn := fun _ => fun
  | [d1, d2, d3] => { results := [.lit (.bool true)], args := [d1, d2, d3] }
  | _ => none }
def topOnceRow : OpenClaim := { program := "ytlhlmflacdeafaagreatdoor", sum := "dec9c3a92ad86e10418bf318f8d0dc6d947cf2792b1dcccb3abcc3336916dc73", func := "dromond/dromondtop.TopOnce", spec := "topOnce", inPlace := ["internal/abi.NoEscape", "internal/bytealg.MakeNoZero", "internal/reflectlite.TypeOf", "slices.overlaps[dromond/api.Block]"], unfollowed := true, recurses := true, named := ["dromond/asb.errForm"], plainKeys := false, apart := false, laid := [("dromond/asb.errForm", laid_dromond_asb_errForm)] }
def TopOnceSaid : Prop := topOnceRow.holds Tryz.pinned (OpenSpec.ofChange topOnceSpec)

/-- ITS FALSE NEIGHBOUR: 'it returns false'. Refute it at one input. -/
def topOnceWrong : ChangeSpec := { name := "topOnce", fn := fun _ => fun
  | [d1, d2, d3] => { results := [.lit (.bool false)], args := [d1, d2, d3] }
  | _ => none }
def TopOnceWrongFalsely : Prop := topOnceRow.holds Tryz.pinned (OpenSpec.ofChange topOnceWrong)

/-- 'dromondtop.TopReports': WHATEVER THE INPUT: true; the input reads as it did. -/
def topReportsSpec : ChangeSpec := { name := "topReports", fn := fun _ => fun
  | [d1, d2, d3] => { results := [.lit (.bool true)], args := [d1, d2, d3] }
  | _ => none }
def topReportsRow : OpenClaim := { program := "ytlhlmflacdeafaagreatdoor", sum := "dec9c3a92ad86e10418bf318f8d0dc6d947cf2792b1dcccb3abcc3336916dc73", func := "dromond/dromondtop.TopReports", spec := "topReports", inPlace := ["internal/abi.NoEscape", "internal/bytealg.MakeNoZero", "internal/reflectlite.TypeOf", "slices.overlaps[dromond/api.Block]"], unfollowed := true, recurses := true, named := ["dromond/asb.errForm"], plainKeys := false, apart := false, laid := [("dromond/asb.errForm", laid_dromond_asb_errForm)] }
def TopReportsSaid : Prop := topReportsRow.holds Tryz.pinned (OpenSpec.ofChange topReportsSpec)

/-- ITS FALSE NEIGHBOUR: 'it returns false'. Refute it at one input. -/
def topReportsWrong : ChangeSpec := { name := "topReports", fn := fun _ => fun
  | [d1, d2, d3] => { results := [.lit (.bool false)], args := [d1, d2, d3] }
  | _ => none }
def TopReportsWrongFalsely : Prop := topReportsRow.holds Tryz.pinned (OpenSpec.ofChange topReportsWrong)

/- THE SECOND FORM. 'bulk': how many values and letters a reading holds, each counted each time it is reached (what is shared counts as often as it is met; a slice's spare places count too). A statement '..UptoSaid' is the law's where the arguments, and the package variables that the reading takes, are together of bulk at most 1048576: NARROWER than '..Said'. Prove '..Said' where nothing that the law and all that it calls make is longer than what came in: it says more and counts as full. Else prove '..UptoSaid'. A law counts once. -/
mutual
def uptoBulk {H : Type} : DataW H → Nat
  | .lit (.string bytes) => bytes.length + 1
  | .lit _ => 1
  | .nil => 1
  | .ptr d => uptoBulk d + 1
  | .slice elems spare => uptoBulkAll elems + uptoBulkAll spare + 1
  | .agg parts => uptoBulkAll parts + 1
  | .iface _ d => uptoBulk d + 1
  | .map entries => uptoBulkEntries entries + 1
  | .held _ => 1
def uptoBulkAll {H : Type} : List (DataW H) → Nat
  | [] => 0
  | d :: r => uptoBulk d + uptoBulkAll r
def uptoBulkEntries {H : Type} : List (Lit × DataW H) → Nat
  | [] => 0
  | x :: r => uptoBulkEntry x + uptoBulkEntries r
def uptoBulkEntry {H : Type} : Lit × DataW H → Nat
  | (.string bytes, d) => bytes.length + uptoBulk d + 1
  | (_, d) => uptoBulk d + 1
 end
def uptoSmall : (H : Type) → List (DataW H) → Bool := fun _ ds => decide (uptoBulkAll ds ≤ 1048576)
def OpenSpec.upto (s : _root_.Go.ChangeSpec) : _root_.Go.OpenSpec := { _root_.Go.OpenSpec.ofChange s with cond := some uptoSmall }

/-- 'dromondtop.TopOnce', WHERE WHAT IT READS IS OF BULK AT MOST 1048576: true; the input reads as it did. -/
def topOnceUptoRow : OpenClaim := { program := "ytlhlmflacdeafaagreatdoor", sum := "dec9c3a92ad86e10418bf318f8d0dc6d947cf2792b1dcccb3abcc3336916dc73", func := "dromond/dromondtop.TopOnce", spec := "topOnce", inPlace := ["internal/abi.NoEscape", "internal/bytealg.MakeNoZero", "internal/reflectlite.TypeOf", "slices.overlaps[dromond/api.Block]"], unfollowed := true, recurses := true, named := ["dromond/asb.errForm"], plainKeys := false, apart := false, laid := [("dromond/asb.errForm", laid_dromond_asb_errForm)], narrowed := true }
def TopOnceUptoSaid : Prop := topOnceUptoRow.holds Tryz.pinned (OpenSpec.upto topOnceSpec)

/-- 'dromondtop.TopReports', WHERE WHAT IT READS IS OF BULK AT MOST 1048576: true; the input reads as it did. -/
def topReportsUptoRow : OpenClaim := { program := "ytlhlmflacdeafaagreatdoor", sum := "dec9c3a92ad86e10418bf318f8d0dc6d947cf2792b1dcccb3abcc3336916dc73", func := "dromond/dromondtop.TopReports", spec := "topReports", inPlace := ["internal/abi.NoEscape", "internal/bytealg.MakeNoZero", "internal/reflectlite.TypeOf", "slices.overlaps[dromond/api.Block]"], unfollowed := true, recurses := true, named := ["dromond/asb.errForm"], plainKeys := false, apart := false, laid := [("dromond/asb.errForm", laid_dromond_asb_errForm)], narrowed := true }
def TopReportsUptoSaid : Prop := topReportsUptoRow.holds Tryz.pinned (OpenSpec.upto topReportsSpec)

end Rows
end Go.Proofs.YtlhlmflacdeafaaGreatDoor
