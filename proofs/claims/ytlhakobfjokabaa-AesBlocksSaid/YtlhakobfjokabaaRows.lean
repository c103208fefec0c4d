/-
  No cell of these rows narrows 'for every input' (looked for: loops, veiled, ifaces, maps, wideKeys, modest, calm, conditions, laid).
  DERIVED. THE GIVEN ROWS OF THIS SEAT. 6 by the template 'for every input the law returns true; each argument reads behind the call as it read before'; 0 by the template 'total and deterministic' (their statements: YtlhakobfjokabaaTotals.lean).
  GIVEN WITH THE SEED: the statements are not yours to turn. If you find one false, say at which input.
  Laid BY PROGRAM, IN A SANDBOX (cutbox-rows.mjs): the forced cells as the released guide's own fill.sh prints them over the translation 66103106764bbe97… (all of the seat's roots in one cut). By AI agents, Wed Nov 11 2026. No macro, syntax, notation, axiom, sorry.
-/
import Derived.Test.YtlhakobfjokabaaChecked
import GoSem.Claim
import GoSem.ClaimJoined
import GoSem.ClaimMapViews
import Derived.JoinedTies
import Derived.KernelRfl
namespace Go.Proofs.Ytlhakobfjokabaa
/- THE CELL 'sum', in the pinned program and in every row, IS THE sha256 OF THE DUMP (.gsa) THAT YtlhakobfjokabaaProg.lean LOADS. Nothing in Lean hashes anything: it is a label: what it is worth is what the hold of that sum in a sandbox is worth. -/
noncomputable def Try.pinned : Pinned := { name := "ytlhakobfjokabaa", sum := "66103106764bbe97b2b731f375a155fc865ad00ef6030b797e2b60375fa392eb", checked := Try.checked }
namespace Rows
def none {H : Type} : Left H := { results := [], args := [] }

/-- 'dromondlaw07.AesTimes': WHATEVER THE INPUT: true; the input reads as it did. -/
def aesTimesSpec : ChangeSpec := { name := "aesTimes", fn := fun _ => fun
  | [d1, d2] => { results := [.lit (.bool true)], args := [d1, d2] }
  | _ => none }
def aesTimesRow : OpenClaim := { program := "ytlhakobfjokabaa", sum := "66103106764bbe97b2b731f375a155fc865ad00ef6030b797e2b60375fa392eb", func := "dromond/dromondlaw07.AesTimes", spec := "aesTimes", apart := false }
def AesTimesSaid : Prop := aesTimesRow.holds Try.pinned (OpenSpec.ofChange aesTimesSpec)

/-- ITS FALSE NEIGHBOUR: 'it returns false'. Refute it at one input. -/
def aesTimesWrong : ChangeSpec := { name := "aesTimes", fn := fun _ => fun
  | [d1, d2] => { results := [.lit (.bool false)], args := [d1, d2] }
  | _ => none }
def AesTimesWrongFalsely : Prop := aesTimesRow.holds Try.pinned (OpenSpec.ofChange aesTimesWrong)

/-- 'dromondlaw07.AesField': WHATEVER THE INPUT: true; the input reads as it did. -/
def aesFieldSpec : ChangeSpec := { name := "aesField", fn := fun _ => fun
  | [d1, d2, d3] => { results := [.lit (.bool true)], args := [d1, d2, d3] }
  | _ => none }
def aesFieldRow : OpenClaim := { program := "ytlhakobfjokabaa", sum := "66103106764bbe97b2b731f375a155fc865ad00ef6030b797e2b60375fa392eb", func := "dromond/dromondlaw07.AesField", spec := "aesField", apart := false }
def AesFieldSaid : Prop := aesFieldRow.holds Try.pinned (OpenSpec.ofChange aesFieldSpec)

/-- ITS FALSE NEIGHBOUR: 'it returns false'. Refute it at one input. -/
def aesFieldWrong : ChangeSpec := { name := "aesField", fn := fun _ => fun
  | [d1, d2, d3] => { results := [.lit (.bool false)], args := [d1, d2, d3] }
  | _ => none }
def AesFieldWrongFalsely : Prop := aesFieldRow.holds Try.pinned (OpenSpec.ofChange aesFieldWrong)

/-- 'dromondlaw07.AesSubs': WHATEVER THE INPUT: true; the input reads as it did. -/
def aesSubsSpec : ChangeSpec := { name := "aesSubs", fn := fun _ => fun
  | [d1, d2] => { results := [.lit (.bool true)], args := [d1, d2] }
  | _ => none }
def aesSubsRow : OpenClaim := { program := "ytlhakobfjokabaa", sum := "66103106764bbe97b2b731f375a155fc865ad00ef6030b797e2b60375fa392eb", func := "dromond/dromondlaw07.AesSubs", spec := "aesSubs", apart := false }
def AesSubsSaid : Prop := aesSubsRow.holds Try.pinned (OpenSpec.ofChange aesSubsSpec)

/-- ITS FALSE NEIGHBOUR: 'it returns false'. Refute it at one input. -/
def aesSubsWrong : ChangeSpec := { name := "aesSubs", fn := fun _ => fun
  | [d1, d2] => { results := [.lit (.bool false)], args := [d1, d2] }
  | _ => none }
def AesSubsWrongFalsely : Prop := aesSubsRow.holds Try.pinned (OpenSpec.ofChange aesSubsWrong)

/-- 'dromondlaw07.AesBlocks': WHATEVER THE INPUT: true; the input reads as it did. -/
def aesBlocksSpec : ChangeSpec := { name := "aesBlocks", fn := fun _ => fun
  | [d1, d2, d3] => { results := [.lit (.bool true)], args := [d1, d2, d3] }
  | _ => none }
def aesBlocksRow : OpenClaim := { program := "ytlhakobfjokabaa", sum := "66103106764bbe97b2b731f375a155fc865ad00ef6030b797e2b60375fa392eb", func := "dromond/dromondlaw07.AesBlocks", spec := "aesBlocks", apart := false }
def AesBlocksSaid : Prop := aesBlocksRow.holds Try.pinned (OpenSpec.ofChange aesBlocksSpec)

/-- ITS FALSE NEIGHBOUR: 'it returns false'. Refute it at one input. -/
def aesBlocksWrong : ChangeSpec := { name := "aesBlocks", fn := fun _ => fun
  | [d1, d2, d3] => { results := [.lit (.bool false)], args := [d1, d2, d3] }
  | _ => none }
def AesBlocksWrongFalsely : Prop := aesBlocksRow.holds Try.pinned (OpenSpec.ofChange aesBlocksWrong)

/-- 'dromondlaw07.AesUndoes': WHATEVER THE INPUT: true; the input reads as it did. -/
def aesUndoesSpec : ChangeSpec := { name := "aesUndoes", fn := fun _ => fun
  | [d1, d2, d3] => { results := [.lit (.bool true)], args := [d1, d2, d3] }
  | _ => none }
def aesUndoesRow : OpenClaim := { program := "ytlhakobfjokabaa", sum := "66103106764bbe97b2b731f375a155fc865ad00ef6030b797e2b60375fa392eb", func := "dromond/dromondlaw07.AesUndoes", spec := "aesUndoes", apart := false }
def AesUndoesSaid : Prop := aesUndoesRow.holds Try.pinned (OpenSpec.ofChange aesUndoesSpec)

/-- ITS FALSE NEIGHBOUR: 'it returns false'. Refute it at one input. -/
def aesUndoesWrong : ChangeSpec := { name := "aesUndoes", fn := fun _ => fun
  | [d1, d2, d3] => { results := [.lit (.bool false)], args := [d1, d2, d3] }
  | _ => none }
def AesUndoesWrongFalsely : Prop := aesUndoesRow.holds Try.pinned (OpenSpec.ofChange aesUndoesWrong)

/-- 'dromondlaw07.AesKeys': WHATEVER THE INPUT: true; the input reads as it did. -/
def aesKeysSpec : ChangeSpec := { name := "aesKeys", fn := fun _ => fun
  | [d1, d2] => { results := [.lit (.bool true)], args := [d1, d2] }
  | _ => none }
def aesKeysRow : OpenClaim := { program := "ytlhakobfjokabaa", sum := "66103106764bbe97b2b731f375a155fc865ad00ef6030b797e2b60375fa392eb", func := "dromond/dromondlaw07.AesKeys", spec := "aesKeys", apart := false }
def AesKeysSaid : Prop := aesKeysRow.holds Try.pinned (OpenSpec.ofChange aesKeysSpec)

/-- ITS FALSE NEIGHBOUR: 'it returns false'. Refute it at one input. -/
def aesKeysWrong : ChangeSpec := { name := "aesKeys", fn := fun _ => fun
  | [d1, d2] => { results := [.lit (.bool false)], args := [d1, d2] }
  | _ => none }
def AesKeysWrongFalsely : Prop := aesKeysRow.holds Try.pinned (OpenSpec.ofChange aesKeysWrong)

/- THE SECOND FORM. 'bulk': how many values and letters a reading holds, each counted each time it is reached (what is shared counts as often as it is met; a slice's spare places count too). A statement '..UptoSaid' is the law's where the arguments, and the package variables that the reading takes, are together of bulk at most 1048576: NARROWER than '..Said'. Prove '..Said' where nothing that the law and all that it calls make is longer than what came in: it says more and counts as full. Else prove '..UptoSaid'. A law counts once. -/
mutual
def uptoBulk {H : Type} : DataW H → Nat
  | .lit (.string bytes) => bytes.length + 1
  | .lit _ => 1
  | .nil => 1
  | .ptr d => uptoBulk d + 1
  | .slice elems spare => uptoBulkAll elems + uptoBulkAll spare + 1
  | .agg parts => uptoBulkAll parts + 1
  | .iface _ d => uptoBulk d + 1
  | .map entries => uptoBulkEntries entries + 1
  | .held _ => 1
def uptoBulkAll {H : Type} : List (DataW H) → Nat
  | [] => 0
  | d :: r => uptoBulk d + uptoBulkAll r
def uptoBulkEntries {H : Type} : List (Lit × DataW H) → Nat
  | [] => 0
  | x :: r => uptoBulkEntry x + uptoBulkEntries r
def uptoBulkEntry {H : Type} : Lit × DataW H → Nat
  | (.string bytes, d) => bytes.length + uptoBulk d + 1
  | (_, d) => uptoBulk d + 1
 end
def uptoSmall : (H : Type) → List (DataW H) → Bool := fun _ ds => decide (uptoBulkAll ds ≤ 1048576)
def OpenSpec.upto (s : _root_.Go.ChangeSpec) : _root_.Go.OpenSpec := { _root_.Go.OpenSpec.ofChange s with cond := some uptoSmall }

/-- 'dromondlaw07.AesTimes', WHERE WHAT IT READS IS OF BULK AT MOST 1048576: true; the input reads as it did. -/
def aesTimesUptoRow : OpenClaim := { program := "ytlhakobfjokabaa", sum := "66103106764bbe97b2b731f375a155fc865ad00ef6030b797e2b60375fa392eb", func := "dromond/dromondlaw07.AesTimes", spec := "aesTimes", apart := false, narrowed := true }
def AesTimesUptoSaid : Prop := aesTimesUptoRow.holds Try.pinned (OpenSpec.upto aesTimesSpec)

/-- 'dromondlaw07.AesField', WHERE WHAT IT READS IS OF BULK AT MOST 1048576: true; the input reads as it did. -/
def aesFieldUptoRow : OpenClaim := { program := "ytlhakobfjokabaa", sum := "66103106764bbe97b2b731f375a155fc865ad00ef6030b797e2b60375fa392eb", func := "dromond/dromondlaw07.AesField", spec := "aesField", apart := false, narrowed := true }
def AesFieldUptoSaid : Prop := aesFieldUptoRow.holds Try.pinned (OpenSpec.upto aesFieldSpec)

/-- 'dromondlaw07.AesSubs', WHERE WHAT IT READS IS OF BULK AT MOST 1048576: true; the input reads as it did. -/
def aesSubsUptoRow : OpenClaim := { program := "ytlhakobfjokabaa", sum := "66103106764bbe97b2b731f375a155fc865ad00ef6030b797e2b60375fa392eb", func := "dromond/dromondlaw07.AesSubs", spec := "aesSubs", apart := false, narrowed := true }
def AesSubsUptoSaid : Prop := aesSubsUptoRow.holds Try.pinned (OpenSpec.upto aesSubsSpec)

/-- 'dromondlaw07.AesBlocks', WHERE WHAT IT READS IS OF BULK AT MOST 1048576: true; the input reads as it did. -/
def aesBlocksUptoRow : OpenClaim := { program := "ytlhakobfjokabaa", sum := "66103106764bbe97b2b731f375a155fc865ad00ef6030b797e2b60375fa392eb", func := "dromond/dromondlaw07.AesBlocks", spec := "aesBlocks", apart := false, narrowed := true }
def AesBlocksUptoSaid : Prop := aesBlocksUptoRow.holds Try.pinned (OpenSpec.upto aesBlocksSpec)

/-- 'dromondlaw07.AesUndoes', WHERE WHAT IT READS IS OF BULK AT MOST 1048576: true; the input reads as it did. -/
def aesUndoesUptoRow : OpenClaim := { program := "ytlhakobfjokabaa", sum := "66103106764bbe97b2b731f375a155fc865ad00ef6030b797e2b60375fa392eb", func := "dromond/dromondlaw07.AesUndoes", spec := "aesUndoes", apart := false, narrowed := true }
def AesUndoesUptoSaid : Prop := aesUndoesUptoRow.holds Try.pinned (OpenSpec.upto aesUndoesSpec)

/-- 'dromondlaw07.AesKeys', WHERE WHAT IT READS IS OF BULK AT MOST 1048576: true; the input reads as it did. -/
def aesKeysUptoRow : OpenClaim := { program := "ytlhakobfjokabaa", sum := "66103106764bbe97b2b731f375a155fc865ad00ef6030b797e2b60375fa392eb", func := "dromond/dromondlaw07.AesKeys", spec := "aesKeys", apart := false, narrowed := true }
def AesKeysUptoSaid : Prop := aesKeysUptoRow.holds Try.pinned (OpenSpec.upto aesKeysSpec)

end Rows
end Go.Proofs.Ytlhakobfjokabaa
