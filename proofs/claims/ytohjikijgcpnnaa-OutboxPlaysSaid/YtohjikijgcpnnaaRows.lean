/-
  No cell of these rows narrows 'for every input' (looked for: loops, veiled, ifaces, maps, wideKeys, modest, calm, conditions, laid).
  DERIVED. THE GIVEN ROWS OF THIS SEAT. 3 by the template 'for every input the law returns true; each argument reads behind the call as it read before'; 0 by the template 'total and deterministic' (their statements: YtohjikijgcpnnaaTotals.lean).
  GIVEN WITH THE SEED: the statements are not yours to turn. If you find one false, say at which input.
  Laid BY PROGRAM, IN A SANDBOX (cutbox-rows.mjs): the forced cells as the released guide's own fill.sh prints them over the translation 11aa1bdff6135c93… (all of the seat's roots in one cut). By AI agents, Wed Nov 11 2026. No macro, syntax, notation, axiom, sorry.
-/
import Derived.Test.YtohjikijgcpnnaaChecked
import GoSem.Claim
import GoSem.ClaimJoined
import GoSem.ClaimMapViews
import Derived.JoinedTies
import Derived.KernelRfl
namespace Go.Proofs.Ytohjikijgcpnnaa
/- THE CELL 'sum', in the pinned program and in every row, IS THE sha256 OF THE DUMP (.gsa) THAT YtohjikijgcpnnaaProg.lean LOADS. Nothing in Lean hashes anything: it is a label: what it is worth is what the hold of that sum in a sandbox is worth. -/
noncomputable def Try.pinned : Pinned := { name := "ytohjikijgcpnnaa", sum := "11aa1bdff6135c93426ea2a691048422d246a2023e859b2f944c0890ca0fd903", checked := Try.checked }
namespace Rows
def none {H : Type} : Left H := { results := [], args := [] }

/-- 'dromondlaw26.OutboxOrder': WHATEVER THE INPUT: true; the input reads as it did. -/
def outboxOrderSpec : ChangeSpec := { name := "outboxOrder", fn := fun _ => fun
  | [d] => { results := [.lit (.bool true)], args := [d] }
  | _ => none }
def outboxOrderRow : OpenClaim := { program := "ytohjikijgcpnnaa", sum := "11aa1bdff6135c93426ea2a691048422d246a2023e859b2f944c0890ca0fd903", func := "dromond/dromondlaw26.OutboxOrder", spec := "outboxOrder", apart := false }
def OutboxOrderSaid : Prop := outboxOrderRow.holds Try.pinned (OpenSpec.ofChange outboxOrderSpec)

/-- ITS FALSE NEIGHBOUR: 'it returns false'. Refute it at one input. -/
def outboxOrderWrong : ChangeSpec := { name := "outboxOrder", fn := fun _ => fun
  | [d] => { results := [.lit (.bool false)], args := [d] }
  | _ => none }
def OutboxOrderWrongFalsely : Prop := outboxOrderRow.holds Try.pinned (OpenSpec.ofChange outboxOrderWrong)

/-- 'dromondlaw26.OutboxApart': WHATEVER THE INPUT: true; the input reads as it did. -/
def outboxApartSpec : ChangeSpec := { name := "outboxApart", fn := fun _ => fun
  | [d1, d2] => { results := [.lit (.bool true)], args := [d1, d2] }
  | _ => none }
def outboxApartRow : OpenClaim := { program := "ytohjikijgcpnnaa", sum := "11aa1bdff6135c93426ea2a691048422d246a2023e859b2f944c0890ca0fd903", func := "dromond/dromondlaw26.OutboxApart", spec := "outboxApart", apart := false }
def OutboxApartSaid : Prop := outboxApartRow.holds Try.pinned (OpenSpec.ofChange outboxApartSpec)

/-- ITS FALSE NEIGHBOUR: 'it returns false'. Refute it at one input. -/
def outboxApartWrong : ChangeSpec := { name := "outboxApart", fn := fun _ => fun
  | [d1, d2] => { results := [.lit (.bool false)], args := [d1, d2] }
  | _ => none }
def OutboxApartWrongFalsely : Prop := outboxApartRow.holds Try.pinned (OpenSpec.ofChange outboxApartWrong)

/-- 'dromondlaw26.OutboxPlays': WHATEVER THE INPUT: true; the input reads as it did. -/
def outboxPlaysSpec : ChangeSpec := { name := "outboxPlays", fn := fun _ => fun
  | [d1, d2] => { results := [.lit (.bool true)], args := [d1, d2] }
  | _ => none }
def outboxPlaysRow : OpenClaim := { program := "ytohjikijgcpnnaa", sum := "11aa1bdff6135c93426ea2a691048422d246a2023e859b2f944c0890ca0fd903", func := "dromond/dromondlaw26.OutboxPlays", spec := "outboxPlays", apart := false }
def OutboxPlaysSaid : Prop := outboxPlaysRow.holds Try.pinned (OpenSpec.ofChange outboxPlaysSpec)

/-- ITS FALSE NEIGHBOUR: 'it returns false'. Refute it at one input. -/
def outboxPlaysWrong : ChangeSpec := { name := "outboxPlays", fn := fun _ => fun
  | [d1, d2] => { results := [.lit (.bool false)], args := [d1, d2] }
  | _ => none }
def OutboxPlaysWrongFalsely : Prop := outboxPlaysRow.holds Try.pinned (OpenSpec.ofChange outboxPlaysWrong)

/- THE SECOND FORM. 'bulk': how many values and letters a reading holds, each counted each time it is reached (what is shared counts as often as it is met; a slice's spare places count too). A statement '..UptoSaid' is the law's where the arguments, and the package variables that the reading takes, are together of bulk at most 1048576: NARROWER than '..Said'. Prove '..Said' where nothing that the law and all that it calls make is longer than what came in: it says more and counts as full. Else prove '..UptoSaid'. A law counts once. -/
mutual
def uptoBulk {H : Type} : DataW H → Nat
  | .lit (.string bytes) => bytes.length + 1
  | .lit _ => 1
  | .nil => 1
  | .ptr d => uptoBulk d + 1
  | .slice elems spare => uptoBulkAll elems + uptoBulkAll spare + 1
  | .agg parts => uptoBulkAll parts + 1
  | .iface _ d => uptoBulk d + 1
  | .map entries => uptoBulkEntries entries + 1
  | .held _ => 1
def uptoBulkAll {H : Type} : List (DataW H) → Nat
  | [] => 0
  | d :: r => uptoBulk d + uptoBulkAll r
def uptoBulkEntries {H : Type} : List (Lit × DataW H) → Nat
  | [] => 0
  | x :: r => uptoBulkEntry x + uptoBulkEntries r
def uptoBulkEntry {H : Type} : Lit × DataW H → Nat
  | (.string bytes, d) => bytes.length + uptoBulk d + 1
  | (_, d) => uptoBulk d + 1
 end
def uptoSmall : (H : Type) → List (DataW H) → Bool := fun _ ds => decide (uptoBulkAll ds ≤ 1048576)
def OpenSpec.upto (s : _root_.Go.ChangeSpec) : _root_.Go.OpenSpec := { _root_.Go.OpenSpec.ofChange s with cond := some uptoSmall }

/-- 'dromondlaw26.OutboxOrder', WHERE WHAT IT READS IS OF BULK AT MOST 1048576: true; the input reads as it did. -/
def outboxOrderUptoRow : OpenClaim := { program := "ytohjikijgcpnnaa", sum := "11aa1bdff6135c93426ea2a691048422d246a2023e859b2f944c0890ca0fd903", func := "dromond/dromondlaw26.OutboxOrder", spec := "outboxOrder", apart := false, narrowed := true }
def OutboxOrderUptoSaid : Prop := outboxOrderUptoRow.holds Try.pinned (OpenSpec.upto outboxOrderSpec)

/-- 'dromondlaw26.OutboxApart', WHERE WHAT IT READS IS OF BULK AT MOST 1048576: true; the input reads as it did. -/
def outboxApartUptoRow : OpenClaim := { program := "ytohjikijgcpnnaa", sum := "11aa1bdff6135c93426ea2a691048422d246a2023e859b2f944c0890ca0fd903", func := "dromond/dromondlaw26.OutboxApart", spec := "outboxApart", apart := false, narrowed := true }
def OutboxApartUptoSaid : Prop := outboxApartUptoRow.holds Try.pinned (OpenSpec.upto outboxApartSpec)

/-- 'dromondlaw26.OutboxPlays', WHERE WHAT IT READS IS OF BULK AT MOST 1048576: true; the input reads as it did. -/
def outboxPlaysUptoRow : OpenClaim := { program := "ytohjikijgcpnnaa", sum := "11aa1bdff6135c93426ea2a691048422d246a2023e859b2f944c0890ca0fd903", func := "dromond/dromondlaw26.OutboxPlays", spec := "outboxPlays", apart := false, narrowed := true }
def OutboxPlaysUptoSaid : Prop := outboxPlaysUptoRow.holds Try.pinned (OpenSpec.upto outboxPlaysSpec)

end Rows
end Go.Proofs.Ytohjikijgcpnnaa
