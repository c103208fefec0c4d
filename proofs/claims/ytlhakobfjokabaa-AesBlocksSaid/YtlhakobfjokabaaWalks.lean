/-
  The contracts of the products of both texts: each returns the plain product.
-/
import Derived.Test.YtlhakobfjokabaaRows
import Derived.Test.YtlhakobfjokabaaPlain
import Derived.WalkKit
import Derived.WalkLawsBesides
import Derived.WalkSpells
import Derived.Lib.Hide
namespace Go.Proofs.Ytlhakobfjokabaa
open Go.RowKit

theorem and8 (s : Nat) (h : s < 256) : bits .and .u8 (s : Int) 1 = ((s % 2 : Nat) : Int) := by
  have := u8_and_nat s 1 h (by decide)
  rw [Nat.and_one_is_mod] at this
  exact this
theorem xt_walk (a : Nat) (h : a < 256) : bits .xor .u8 ((a : Int) * 2 % 256) ((a : Int) / 128 * 27) = ((xt a : Nat) : Int) :=
  u8_xor_nat (a * 2 % 256) (a / 128 * 27) (by omega) (by omega)

set_option maxHeartbeats 400000 in
theorem Times_any (a b : Nat) (w : World) (ha : a < 256) (hb : b < 256) :
    Calls Try.prog 10 #[.int .u8 a, .int .u8 b] w fun e w' => e = .returned (.int .u8 (mul a b : Nat)) ∧ w = w' := by
  go_enter Try.func10, Try.ntmps10
  go_wp2
  go_loop [0, 1, 5, 6] (fun x y o _ => ∃ k : Nat, k ≤ 8 ∧ x = .int .u8 (ma a k : Nat) ∧ y = .int .u8 (b / 2 ^ k : Nat) ∧ o = .int .u8 (mo a b k : Nat)) (fun _ y _ _ => (intOf y).toNat)
  case atStart => exact ⟨0, by omega, rfl, by simp, rfl⟩
  case round =>
    obtain ⟨k, hk, rfl, rfl, rfl⟩ := hrel
    have hm := ma_lt a ha k
    have ho := mo_lt a b ha k
    by_cases hz : b / 2 ^ k = 0
    · have HM := Lib.hid (mo_mul a b k hk hz)
      rw [hz]
      clear hz
      go_wp2
      go_ret
      exact ⟨by rw [← HM.out]; rfl, rfl⟩
    · have hk8 : k < 8 := by
        rcases Nat.lt_or_ge k 8 with h | h
        · exact h
        · exfalso
          have : k = 8 := by omega
          subst this
          omega
      have H1 := Lib.hid (show mo a b (k + 1) = if b / 2 ^ k % 2 = 1 then mo a b k ^^^ ma a k else mo a b k from rfl)
      have H2 := Lib.hid (show ma a (k + 1) = xt (ma a k) from rfl)
      have H3 := Lib.hid (show b / 2 ^ (k + 1) = b / 2 ^ k / 2 from by rw [Nat.pow_succ, Nat.div_div_eq_div_mul])
      have hbl : b / 2 ^ k < 256 := by
        have := Nat.div_le_self b (2 ^ k)
        omega
      generalize mo a b k = O at *
      generalize ma a k = A at *
      generalize b / 2 ^ k = B at *
      have hne : ((B : Int) != 0) = true := by rw [bne_iff_ne]; omega
      have hx := xt_walk A hm
      have hxo : bits .xor .u8 (O : Int) (A : Int) = ((O ^^^ A : Nat) : Int) := u8_xor_nat _ _ ho hm
      have hand := and8 B hbl
      by_cases hp : B % 2 = 1
      · have HP := Lib.hid hp
        have ha1 : (bits .and .u8 (B : Int) 1 == 1) = true := by rw [hand, hp]; rfl
        clear hand hp
        go_wp2
        go_round
        case rel => exact ⟨k + 1, by omega, by rw [H2.out], by rw [H3.out]; go_num, by rw [H1.out, if_pos HP.out]⟩
        case measure => simp [intOf]; omega
      · have HP := Lib.hid hp
        have ha1 : (bits .and .u8 (B : Int) 1 == 1) = false := by
          rw [hand, beq_eq_false_iff_ne]
          omega
        clear hand hp
        go_wp2
        go_round
        case rel => exact ⟨k + 1, by omega, by rw [H2.out], by rw [H3.out]; go_num, by rw [H1.out, if_neg HP.out]⟩
        case measure => simp [intOf]; omega

theorem xor64 (a b : Nat) (ha : a < 2 ^ 62) (hb : b < 2 ^ 62) : bits .xor .i64 (a : Int) (b : Int) = ((a ^^^ b : Nat) : Int) := by
  have hx : a ^^^ b < 2 ^ 62 := Nat.xor_lt_two_pow ha hb
  have h1 : (BitVec.ofInt 64 (a : Int)).toNat = a := by
    rw [BitVec.ofInt_natCast, BitVec.toNat_ofNat]; exact Nat.mod_eq_of_lt (by omega)
  have h2 : (BitVec.ofInt 64 (b : Int)).toNat = b := by
    rw [BitVec.ofInt_natCast, BitVec.toNat_ofNat]; exact Nat.mod_eq_of_lt (by omega)
  show IntKind.i64.wrap ((BitVec.ofInt 64 (a : Int) ^^^ BitVec.ofInt 64 (b : Int)).toNat : Int) = _
  rw [BitVec.toNat_xor, h1, h2, IntKind.wrap_i64]
  omega

set_option maxRecDepth 20000 in
set_option maxHeartbeats 400000 in
theorem refTimes_any (a b : Nat) (w : World) (ha : a < 256) (hb : b < 256) :
    Calls Try.prog 11 #[.int .i64 a, .int .i64 b] w fun e w' => e = .returned (.int .i64 (mul a b : Nat)) ∧ w = w' := by
  go_enter Try.func11, Try.ntmps11
  go_wp2
  go_loop [0, 1, 5, 6] (fun x y o i => ∃ k : Nat, k ≤ 8 ∧ i = .int .i64 k ∧ x = .int .i64 (ma a k : Nat) ∧ y = .int .i64 (b / 2 ^ k : Nat) ∧ o = .int .i64 (mo a b k : Nat)) (fun _ _ _ i => 8 - (intOf i).toNat)
  case atStart => exact ⟨0, by omega, rfl, rfl, by simp, rfl⟩
  case round =>
    obtain ⟨k, hk, rfl, rfl, rfl, rfl⟩ := hrel
    have hm := ma_lt a ha k
    have ho := mo_lt a b ha k
    by_cases hk8 : k < 8
    · have H1 := Lib.hid (show mo a b (k + 1) = if b / 2 ^ k % 2 = 1 then mo a b k ^^^ ma a k else mo a b k from rfl)
      have H2 := Lib.hid (show ma a (k + 1) = xt (ma a k) from rfl)
      have H3 := Lib.hid (show b / 2 ^ (k + 1) = b / 2 ^ k / 2 from by rw [Nat.pow_succ, Nat.div_div_eq_div_mul])
      have hbl : b / 2 ^ k < 256 := by
        have := Nat.div_le_self b (2 ^ k)
        omega
      have hr := xt_ref _ hm
      generalize mo a b k = O at *
      generalize ma a k = A at *
      generalize b / 2 ^ k = B at *
      have HR := Lib.hid hr; clear hr
      have hxo : bits .xor .i64 (O : Int) (A : Int) = ((O ^^^ A : Nat) : Int) := xor64 _ _ (by omega) (by omega)
      have hx2 : bits .xor .i64 ((A : Int) * 2) 283 = ((A * 2 ^^^ 283 : Nat) : Int) := xor64 (A * 2) 283 (by omega) (by omega)
      by_cases hp : B % 2 = 1 <;> by_cases hq : 256 ≤ A * 2
      all_goals
        have HP := Lib.hid hp
        have HQ := Lib.hid hq
      · have hp1 : ((B : Int) % 2 == 1) = true := by rw [beq_iff_eq]; omega
        clear hp
        go_wp2
        go_round
        case rel => exact ⟨k + 1, by omega, by go_num, by rw [H2.out, HR.out, if_pos HQ.out], by rw [H3.out]; go_num, by rw [H1.out, if_pos HP.out]⟩
        case measure => simp [intOf]; omega
      · have hp1 : ((B : Int) % 2 == 1) = true := by rw [beq_iff_eq]; omega
        clear hp
        go_wp2
        go_round
        case rel => exact ⟨k + 1, by omega, by go_num, by rw [H2.out, HR.out, if_neg HQ.out]; go_num, by rw [H3.out]; go_num, by rw [H1.out, if_pos HP.out]⟩
        case measure => simp [intOf]; omega
      · have hp1 : ((B : Int) % 2 == 1) = false := by rw [beq_eq_false_iff_ne]; omega
        clear hp
        go_wp2
        go_round
        case rel => exact ⟨k + 1, by omega, by go_num, by rw [H2.out, HR.out, if_pos HQ.out], by rw [H3.out]; go_num, by rw [H1.out, if_neg HP.out]⟩
        case measure => simp [intOf]; omega
      · have hp1 : ((B : Int) % 2 == 1) = false := by rw [beq_eq_false_iff_ne]; omega
        clear hp
        go_wp2
        go_round
        case rel => exact ⟨k + 1, by omega, by go_num, by rw [H2.out, HR.out, if_neg HQ.out]; go_num, by rw [H3.out]; go_num, by rw [H1.out, if_neg HP.out]⟩
        case measure => simp [intOf]; omega
    · have hk9 : k = 8 := by omega
      subst hk9
      go_wp2
      go_ret
      exact ⟨rfl, rfl⟩
end Go.Proofs.Ytlhakobfjokabaa
