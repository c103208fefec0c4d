/-
  AesTimes and AesField: the walks of the laws.
-/
import Derived.Test.YtlhakobfjokabaaSub
namespace Go.Proofs.Ytlhakobfjokabaa
open Go.RowKit

set_option maxRecDepth 20000 in
set_option maxHeartbeats 400000 in
theorem law_times (a b : Nat) (w : World) (ha : a < 256) (hb : b < 256) :
    Calls Try.prog 3 #[.int .u8 a, .int .u8 b] w fun e w' => e = .returned (.bool true) ∧ w = w' := by
  have hm := mul_lt a b ha
  go_enter Try.func3, Try.ntmps3
  go_wp2_with fail
  refine (awake_any _).mono ?_
  rintro e w' ⟨rfl, rfl⟩
  go_wp2_with fail
  refine (Times_any a b _ ha hb).mono ?_
  rintro e w' ⟨rfl, rfl⟩
  go_wp2_with fail
  refine (refTimes_any a b _ ha hb).mono ?_
  rintro e w' ⟨rfl, rfl⟩
  go_wp2_with fail
  go_ret
  exact ⟨rfl, rfl⟩

theorem field_last (a b : Nat) (ha : a < 256) (hb : b < 256) :
    (((mul a b : Nat) : Int) == 0) = (((a : Int) == 0) || ((b : Int) == 0)) := by
  by_cases h0 : a = 0
  · subst h0
    rw [mul_zeroL]
    simp
  · by_cases h1 : b = 0
    · subst h1
      rw [mul_zeroR]
      simp
    · have h2 : ¬ mul a b = 0 := fun h => by
        rcases mul_none a b ha hb h with h | h
        · exact h0 h
        · exact h1 h
      have e1 : (((mul a b : Nat) : Int) == 0) = false := by rw [beq_eq_false_iff_ne]; omega
      have e2 : ((a : Int) == 0) = false := by rw [beq_eq_false_iff_ne]; omega
      have e3 : ((b : Int) == 0) = false := by rw [beq_eq_false_iff_ne]; omega
      rw [e1, e2, e3]
      rfl
set_option maxRecDepth 20000 in
set_option maxHeartbeats 1000000 in
theorem law_field_of (a b c : Nat) (za zb : Bool) (w : World) (ha : a < 256) (hb : b < 256) (hc : c < 256) (e2 : ((a : Int) == 0) = za) (e3 : ((b : Int) == 0) = zb) (e1 : (((mul a b : Nat) : Int) == 0) = (za || zb)) :
    Calls Try.prog 4 #[.int .u8 a, .int .u8 b, .int .u8 c] w fun e w' => e = .returned (.bool true) ∧ w = w' := by
  have hab := mul_lt a b ha
  have hac := mul_lt a c ha
  have hbc := mul_lt b c hb
  have hxl : b ^^^ c < 256 := Nat.xor_lt_two_pow (n := 8) hb hc
  have q1 : (((mul a b : Nat) : Int) != ((mul b a : Nat) : Int)) = false := by rw [mul_comm a b ha hb]; simp
  have q2 : (((mul (mul a b) c : Nat) : Int) != ((mul a (mul b c) : Nat) : Int)) = false := by rw [mul_assoc a b c ha hb hc]; simp
  have q3 : (((mul a (b ^^^ c) : Nat) : Int) != ((mul a b ^^^ mul a c : Nat) : Int)) = false := by rw [mul_xorR]; simp
  have q4 : (((mul a 1 : Nat) : Int) != (a : Int)) = false := by rw [mul_oneR]; simp
  have q5 : (((mul a 0 : Nat) : Int) != 0) = false := by rw [mul_zeroR]; rfl
  have x1 : bits .xor .u8 (b : Int) (c : Int) = ((b ^^^ c : Nat) : Int) := u8_xor_nat _ _ hb hc
  have x2 : bits .xor .u8 ((mul a b : Nat) : Int) ((mul a c : Nat) : Int) = ((mul a b ^^^ mul a c : Nat) : Int) := u8_xor_nat _ _ hab hac
  cases za <;> cases zb
  all_goals
    simp only [Bool.or_false, Bool.or_true] at e1
    go_enter Try.func4, Try.ntmps4
    go_wp2_with fail
    refine (awake_any _).mono ?_
    rintro e w' ⟨rfl, rfl⟩
    go_wp2_with fail
    refine (Times_any a b _ ha hb).mono ?_
    rintro e w' ⟨rfl, rfl⟩
    go_wp2_with fail
    refine (Times_any b a _ hb ha).mono ?_
    rintro e w' ⟨rfl, rfl⟩
    go_wp2_with fail
    refine (Times_any a b _ ha hb).mono ?_
    rintro e w' ⟨rfl, rfl⟩
    go_wp2_with fail
    refine (Times_any _ c _ hab hc).mono ?_
    rintro e w' ⟨rfl, rfl⟩
    go_wp2_with fail
    refine (Times_any b c _ hb hc).mono ?_
    rintro e w' ⟨rfl, rfl⟩
    go_wp2_with fail
    refine (Times_any a _ _ ha hbc).mono ?_
    rintro e w' ⟨rfl, rfl⟩
    go_wp2_with fail
    refine (Times_any a _ _ ha hxl).mono ?_
    rintro e w' ⟨rfl, rfl⟩
    go_wp2_with fail
    refine (Times_any a b _ ha hb).mono ?_
    rintro e w' ⟨rfl, rfl⟩
    go_wp2_with fail
    refine (Times_any a c _ ha hc).mono ?_
    rintro e w' ⟨rfl, rfl⟩
    go_wp2_with fail
    refine (Times_any a 1 _ ha (by omega)).mono ?_
    rintro e w' ⟨rfl, rfl⟩
    go_wp2_with fail
    refine (Times_any a 0 _ ha (by omega)).mono ?_
    rintro e w' ⟨rfl, rfl⟩
    go_wp2_with fail
    refine (Times_any a b _ ha hb).mono ?_
    rintro e w' ⟨rfl, rfl⟩
    go_wp2_with fail
    go_ret
    exact ⟨rfl, rfl⟩
theorem law_field (a b c : Nat) (w : World) (ha : a < 256) (hb : b < 256) (hc : c < 256) :
    Calls Try.prog 4 #[.int .u8 a, .int .u8 b, .int .u8 c] w fun e w' => e = .returned (.bool true) ∧ w = w' :=
  law_field_of a b c _ _ w ha hb hc rfl rfl (field_last a b ha hb)
end Go.Proofs.Ytlhakobfjokabaa
