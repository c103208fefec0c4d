/-
  AesSubs: the walk of the law.
-/
import Derived.Test.YtlhakobfjokabaaTable
namespace Go.Proofs.Ytlhakobfjokabaa
open Go.RowKit

theorem subs_last (a b : Nat) (ha : a < 256) (hb : b < 256) : (((sub a : Nat) : Int) == ((sub b : Nat) : Int)) = ((a : Int) == (b : Int)) := by
  by_cases h : a = b
  · subst h
    simp
  · have h2 : ¬ sub a = sub b := fun e => h (sub_inj a b ha hb e)
    have e1 : (((sub a : Nat) : Int) == ((sub b : Nat) : Int)) = false := by rw [beq_eq_false_iff_ne]; omega
    have e2 : ((a : Int) == (b : Int)) = false := by rw [beq_eq_false_iff_ne]; omega
    rw [e1, e2]
set_option maxRecDepth 20000 in
set_option maxHeartbeats 400000 in
theorem law_subs (a b : Nat) (w : World) (ha : a < 256) (hb : b < 256) :
    Calls Try.prog 5 #[.int .u8 a, .int .u8 b] w fun e w' => e = .returned (.bool true) ∧ w = w' := by
  have hsa := sub_lt a ha
  have HE := Lib.hid (subs_last a b ha hb)
  go_enter Try.func5, Try.ntmps5
  go_wp2_with fail
  refine (awake_any _).mono ?_
  rintro e w' ⟨rfl, rfl⟩
  go_wp2_with fail
  refine (Sub_any a _ ha).mono ?_
  rintro e w' ⟨rfl, rfl⟩
  change aff (pw a 8) 4 < 256 at hsa
  go_wp2_with fail
  refine (refSub_any a _ ha).mono ?_
  rintro e w' ⟨rfl, rfl⟩
  change sub a < 256 at hsa
  rw [show aff (pw a 8) 4 = sub a from rfl]
  go_wp2_with fail
  refine (Sub_any a _ ha).mono ?_
  rintro e w' ⟨rfl, rfl⟩
  rw [show aff (pw a 8) 4 = sub a from rfl]
  go_wp2_with fail
  refine (Sub_any b _ hb).mono ?_
  rintro e w' ⟨rfl, rfl⟩
  rw [show aff (pw b 8) 4 = sub b from rfl]
  have he := HE.out
  go_wp2_with fail
  go_ret
  exact ⟨rfl, rfl⟩
end Go.Proofs.Ytlhakobfjokabaa
