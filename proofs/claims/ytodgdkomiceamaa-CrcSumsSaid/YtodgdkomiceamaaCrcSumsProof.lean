/-
  For every string b and every int kind, the law CrcSums of the program returns true and leaves its arguments as they were. Conditions: none.
-/
import Derived.Test.YtodgdkomiceamaaRows
import Derived.Test.YtodgdkomiceamaaSums2
import Derived.WalkKit
import Derived.ProofKit
import Derived.OpenShut
import Derived.ShutString
namespace Go.Proofs.Ytodgdkomiceamaa.crcSums
open Go.ChangeShapes Go.WideShapes Go.ChangeAt Go.RowKit
open Go.ChangeMaps (open_string shut_string)
set_option linter.unusedVariables false      -- a walk need not use every 'w<i>' (that an integer argument fits its kind)

theorem own : ownKnob Try.prog.godebug = none := by kernel_rfl

theorem walk (a0 : ByteArray) (a1 : Int) (w0 : a0.size ≤ maxLen) (w1 : (Lit.int .i64 a1).wf = true) (w : World) :
    Calls Try.prog 5 #[.string a0, .int .i64 a1] w fun e w' => e = .returned (.bool true) ∧ Below w.heap.size w w' := by
  by_cases h : 1000 < a0.size
  · exact sums_none a0 a1 w h
  · have hm : a0.size ≤ maxLen := w0
    have sm : ∀ w w' : World, ∀ e : Ending, (e = .returned (.string ⟨#[]⟩) ∧ w = w') → (e = .returned (.string ⟨#[]⟩) ∧ Below w.heap.size w w') := fun w w' e h => ⟨h.1, by rw [h.2]; exact Below.refl _ _⟩
    have hs0 : ∀ k : Int, k ≠ 1 → k ≠ 2 → ∀ w : World, Calls Try.prog 9 #[.int .i64 k, .string a0] w fun e w' => e = .returned (.string ⟨#[]⟩) ∧ Below w.heap.size w w' :=
      fun k h1 h2 w => (sum0 k a0 w h1 h2).mono fun e w' h => sm w w' e h
    have hb0 : ∀ k : Int, k ≠ 1 → k ≠ 2 → ∀ w : World, Calls Try.prog 11 #[.int .i64 k, .string a0] w fun e w' => e = .returned (.string ⟨#[]⟩) ∧ Below w.heap.size w w' :=
      fun k h1 h2 w => (bytes0 k a0 w h1 h2).mono fun e w' h => sm w w' e h
    by_cases hlo : a1 < 0
    · exact sums_low a0 a1 w (by omega) hlo (hs0 a1 (by omega) (by omega)) (hb0 a1 (by omega) (by omega))
    · by_cases hhi : 2 < a1
      · exact sums_high a0 a1 w (by omega) hhi (hs0 a1 (by omega) (by omega)) (hb0 a1 (by omega) (by omega))
      · by_cases e1 : a1 = 1
        · subst e1
          exact sums_in a0 _ 1 w (by omega) (by omega) (by omega) (Lib.hid rfl) (fun w => sum1 a0 w hm) (fun w => bytes1 a0 w hm)
        · by_cases e2 : a1 = 2
          · subst e2
            exact sums_in a0 _ 2 w (by omega) (by omega) (by omega) (Lib.hid rfl) (fun w => sum2 a0 w hm) (fun w => bytes2 a0 w hm)
          · have e0 : a1 = 0 := by omega
            subst e0
            exact sums_in a0 _ 0 w (by omega) (by omega) (by omega) (Lib.hid rfl) (hs0 0 (by omega) (by omega)) (hb0 0 (by omega) (by omega))

/-! ### THE ROW's STEP: WRITTEN OUT: LEAVE IT -/
set_option maxRecDepth 100000 in
theorem lifted (os : Os) (started : os.Started) (H : Type) (enc : TypeId × Value → H) :
    ReturnsInHanded {} Try.checked os 5 .any (Rows.crcSumsSpec.pre6 enc Try.prog Try.f5 Rows.crcSumsRow.domain false) (Rows.crcSumsSpec.post enc Try.prog Try.f5 false true false false) := by
  refine returnsInHanded_of_change (C := Try.checked) own started (by kernel_rfl) Try.func5
    (ChangeSpec.witness6 (enc := enc) (C := Try.checked) false ⟨#[], #[.string ByteArray.empty, .int .i64 0], []⟩ 8 (by kernel_rfl) (by kernel_rfl) (by kernel_rfl) (by kernel_rfl)) ?_
  intro W base args ds gs before hval0 hW hcnd _
  have hval : ∀ (j : Nat) t v, Try.f5.params[j]? = some t → args[j]? = some v → Value.okWide Try.prog W .any base t v := hval0
  have hW' := hW
  obtain ⟨p, q, hA0, hV, rfl, hfz, hnd⟩ := hW
  have hA : DataW.TrodAll enc Try.prog W 0 (fun _ => true) true Try.f5.params.toList args.toList ds p := hA0
  rw [Try.params5] at hA hval
  obtain ⟨v0, vs0, d0, ds0, p0, q0, hargs, rfl, rfl, h0, r0⟩ := trodAll_cons hA
  obtain ⟨v1, vs1, d1, ds1, p1, q1, rfl, rfl, rfl, h1, r1⟩ := trodAll_cons r0
  obtain ⟨rfl, rfl, rfl⟩ := trodAll_nil r1
  obtain rfl : args = #[v0, v1] := by cases args; simp_all
  obtain ⟨rfl, rfl⟩ := trodVars_none hV
  obtain ⟨a0, rfl, rfl, rfl, w0⟩ := open_string Try.underlying9 (hval 0 9 v0 rfl rfl) h0
  obtain ⟨a1, rfl, rfl, rfl, w1⟩ := open_int Try.underlying3 (hval 1 3 v1 rfl rfl) h1
  clear hA0 hval0
  simp only [List.append_nil] at hW'
  refine (walk a0 a1 w0 w1 W).mono fun e W' ⟨he, hg⟩ => ?_
  subst he
  exact ⟨_, rfl, _, _, _, [], _, [], hW', (trodAll_cons_mk (shut_bool Try.underlying4 _) trodAll_mk0), (trodAll_cons_mk (shut_string Try.underlying9 w0) (trodAll_cons_mk (shut_int Try.underlying3 w1) trodAll_mk0)), rfl, hg.frame _, fun h => by cases h⟩

theorem over : Rows.crcSumsRow.holds Try.pinned (OpenSpec.ofChange Rows.crcSumsSpec) :=
  OpenClaim.holds_of_wide 5 Try.f5 rfl rfl rfl rfl rfl rfl rfl ⟨rfl, rfl, rfl, rfl, rfl⟩ rfl rfl rfl rfl rfl (by kernel_rfl) Try.func5 (by kernel_rfl)
    (of_decide_eq_true (by kernel_rfl)) (by unfold Func.isWrapper; first | (rw [if_pos (by decide +kernel)]; kernel_rfl) | (rw [if_neg (by decide +kernel)]; exact ⟨rfl, rfl⟩))
    (fun os started H enc _ => lifted os started H enc)

/-- ████ THE STATEMENT ████ -/
theorem proved : Rows.CrcSumsSaid :=
  over
#print axioms proved
end Go.Proofs.Ytodgdkomiceamaa.crcSums
