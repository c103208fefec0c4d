/-
  An array of bytes that came in.
-/
import Derived.Test.YtlhakobfjokabaaUndoes
import Derived.WalkKit
import Derived.ProofKit
import Derived.OpenShut
import Derived.ShutString
import Derived.ChangeOld
import Derived.Below
import Derived.Deep.Slices
import Derived.Deep.Fields
import Derived.ChangeSame
namespace Go.Proofs.Ytlhakobfjokabaa
open Go.ChangeShapes Go.WideShapes Go.ChangeAt Go.RowKit Go.Deep

def byteOf : Value → Nat
  | .int _ n => if 0 ≤ n ∧ n < 256 then n.toNat else 0
  | _ => 0
theorem byteOf_lt (v : Value) : byteOf v < 256 := by
  unfold byteOf
  split
  · split
    · omega
    · decide
  · decide
section
variable {H : Type} {enc : TypeId × Value → H} {w : World} {base : Nat} {spare : Nat → Bool} {held : Bool}
theorem bytes_arr {ty : TypeId} {n : Nat} {r : Reach} {b0 : Nat} {v : Value} {d : DataW H} {p : List MemPlace} (hu : Try.prog.underlying ty = some (.array n 5)) (hC : Try.prog.cellsOf ty = n)
    (hv : Value.okWide Try.prog w r b0 ty v) (h : DataW.Trod enc Try.prog w base spare held ty v d p) : ∃ f : Nat → Nat, v = .agg (arr n f) ∧ ∀ j, f j < 256 := by
  simp only [Value.okWide, hu] at hv
  obtain ⟨cs, rfl, hsz, _⟩ := hv
  have hC5 : Try.prog.cellsOf 5 = 1 := by kernel_rfl
  have hsz := hsz.trans hC
  obtain ⟨fuel, hf⟩ := h
  obtain ⟨xs, m, _, _, _, hl, hg⟩ := DataW.trod_array hu hf
  refine ⟨fun j => byteOf (cs[j]?.getD undef), ?_, fun j => byteOf_lt _⟩
  congr 1
  apply Array.ext_getElem?
  intro j
  by_cases hj : j < n
  · have g0 := hg j hj
    rw [List.getElem?_eq_getElem (by omega), hC5] at g0
    obtain ⟨a, ha, _, hw⟩ := DataW.trod_int Try.underlying5 g0
    have hcj : cs[j]? = some (.int .u8 a) := by
      simp only [Value.cells, Nat.mul_one] at ha
      have h1 := congrArg (fun l : List Value => l[0]?) ha
      simpa [List.getElem?_take, List.getElem?_drop] using h1
    obtain ⟨h0, h1⟩ : 0 ≤ a ∧ a < 256 := by
      simp [Lit.wf, IntKind.min, IntKind.max, IntKind.signed, IntKind.bits] at hw
      omega
    rw [arr_at n _ j hj, hcj]
    show _ = some (Value.int .u8 ((byteOf ((some (Value.int .u8 a)).getD undef) : Nat) : Int))
    simp only [Option.getD_some, byteOf, if_pos (And.intro h0 h1), Int.toNat_of_nonneg h0]
  · rw [Array.getElem?_eq_none (by omega), Array.getElem?_eq_none (by rw [arr_size]; omega)]
end
end Go.Proofs.Ytlhakobfjokabaa
