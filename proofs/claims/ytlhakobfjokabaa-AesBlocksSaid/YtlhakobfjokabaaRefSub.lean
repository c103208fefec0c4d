/-
  The contracts of the reference's substitution.
-/
import Derived.Test.YtlhakobfjokabaaSub
namespace Go.Proofs.Ytlhakobfjokabaa
open Go.RowKit

/-- The square, so many times. -/
def rsq (a : Nat) : Nat → Nat
  | 0 => a
  | k + 1 => mul (rsq a k) (rsq a k)
/-- The product of the squares. -/
def rio (a : Nat) : Nat → Nat
  | 0 => 1
  | k + 1 => mul (rio a k) (rsq a (k + 1))
theorem rsq_lt (a : Nat) (h : a < 256) : ∀ k, rsq a k < 256
  | 0 => h
  | k + 1 => mul_lt _ _ (rsq_lt a h k)
theorem rio_lt (a : Nat) : ∀ k, rio a k < 256
  | 0 => by show 1 < 256; omega
  | k + 1 => mul_lt _ _ (rio_lt a k)
/-- A bit of the result, ahead of the remainder; the sum of so many bits. -/
def btn (x i : Nat) : Nat := x / 2 ^ i % 2
def rbs (x i : Nat) : Nat := btn x i + btn x ((i + 4) % 8) + btn x ((i + 5) % 8) + btn x ((i + 6) % 8) + btn x ((i + 7) % 8) + btn 99 i
theorem btn_lt (x i : Nat) : btn x i < 2 := Nat.mod_lt _ (by omega)
def rsb (x : Nat) : Nat → Nat
  | 0 => 0
  | k + 1 => rsb x k + rbs x k % 2 * 2 ^ k
theorem rsb_lt (x : Nat) : ∀ k, rsb x k < 2 ^ k
  | 0 => by show 0 < 1; omega
  | k + 1 => by
    have := rsb_lt x k
    have h2 : rbs x k % 2 < 2 := Nat.mod_lt _ (by omega)
    show rsb x k + rbs x k % 2 * 2 ^ k < 2 ^ (k + 1)
    rw [Nat.pow_succ]
    rcases (show rbs x k % 2 = 0 ∨ rbs x k % 2 = 1 by omega) with h | h <;> rw [h] <;> omega
/-- Both substitutions are one. -/
def sub (a : Nat) : Nat := aff (pw a 8) 4
theorem sub_ref : ∀ a, a < 256 → rsb (rio a 7) 8 = sub a := by decide +kernel
theorem sub_lt (a : Nat) (h : a < 256) : sub a < 256 := aff_lt _ (pw_lt a h 8) 4

set_option maxRecDepth 20000 in
set_option maxHeartbeats 400000 in
theorem bit_any (a : Nat) (i : Int) (w : World) (ha : a < 256) (h0 : 0 ≤ i) (h8 : i ≤ 8) :
    Calls Try.prog 23 #[.int .i64 a, .int .i64 i] w fun e w' => e = .returned (.int .i64 (btn a i.toNat : Nat)) ∧ w = w' := by
  obtain ⟨n, rfl⟩ := Int.eq_ofNat_of_zero_le h0
  rw [Int.toNat_natCast]
  go_enter Try.func23, Try.ntmps23
  go_wp2
  go_loop [0, 5] (fun x j => ∃ k : Nat, k ≤ n ∧ j = .int .i64 k ∧ x = .int .i64 (a / 2 ^ k : Nat)) (fun _ j => n - (intOf j).toNat)
  case atStart => exact ⟨0, by omega, rfl, by simp⟩
  case round =>
    obtain ⟨k, hk, rfl, rfl⟩ := hrel
    have hbl : a / 2 ^ k < 256 := by
      have := Nat.div_le_self a (2 ^ k)
      omega
    by_cases hkn : k < n
    · have H3 := Lib.hid (show a / 2 ^ (k + 1) = a / 2 ^ k / 2 from by rw [Nat.pow_succ, Nat.div_div_eq_div_mul])
      generalize a / 2 ^ k = A at *
      go_wp2
      go_round
      case rel => exact ⟨k + 1, by omega, by go_num, by rw [H3.out]; go_num⟩
      case measure => simp [intOf]; omega
    · have hk9 : k = n := by omega
      subst hk9
      generalize hA : a / 2 ^ k = A at *
      have HA := Lib.hid hA; clear hA
      go_wp2
      go_ret
      exact ⟨by rw [btn, HA.out]; rfl, rfl⟩

set_option maxRecDepth 20000 in
set_option maxHeartbeats 400000 in
theorem Inverse_any (a : Nat) (w : World) (ha : a < 256) :
    Calls Try.prog 22 #[.int .i64 a] w fun e w' => e = .returned (.int .i64 (rio a 7 : Nat)) ∧ w = w' := by
  go_enter Try.func22, Try.ntmps22
  go_wp2
  go_loop [3, 4, 5] (fun s o i => ∃ k : Nat, k ≤ 7 ∧ i = .int .i64 k ∧ s = .int .i64 (rsq a k : Nat) ∧ o = .int .i64 (rio a k : Nat)) (fun _ _ i => 7 - (intOf i).toNat)
  case atStart => exact ⟨0, by omega, rfl, rfl, rfl⟩
  case round =>
    obtain ⟨k, hk, rfl, rfl, rfl⟩ := hrel
    have hs := rsq_lt a ha k
    have hs2 := rsq_lt a ha (k + 1)
    have ho := rio_lt a k
    by_cases hkn : k < 7
    · have H1 := Lib.hid (show mul (rsq a k) (rsq a k) = rsq a (k + 1) from rfl)
      have H2 := Lib.hid (show rio a (k + 1) = mul (rio a k) (rsq a (k + 1)) from rfl)
      go_wp2_with fail
      refine (refTimes_any _ _ _ hs hs).mono ?_
      rintro e w' ⟨rfl, rfl⟩
      rw [H1.out]
      go_wp2_with fail
      refine (refTimes_any _ _ _ ho hs2).mono ?_
      rintro e w' ⟨rfl, rfl⟩
      go_wp2_with fail
      go_round
      case rel => exact ⟨k + 1, by omega, by go_num, rfl, by rw [H2.out]⟩
      case measure => simp [intOf]; omega
    · have hk9 : k = 7 := by omega
      subst hk9
      go_wp2_with fail
      go_ret
      exact ⟨rfl, rfl⟩

set_option maxRecDepth 20000 in
set_option maxHeartbeats 1000000 in
theorem refSub_any (a : Nat) (w : World) (ha : a < 256) :
    Calls Try.prog 13 #[.int .i64 a] w fun e w' => e = .returned (.int .i64 (sub a : Nat)) ∧ w = w' := by
  have HS := Lib.hid (sub_ref a ha)
  have hx := rio_lt a 7
  go_enter Try.func13, Try.ntmps13
  go_wp2_with fail
  refine (Inverse_any _ _ ha).mono ?_
  rintro e w' ⟨rfl, rfl⟩
  generalize hX : rio a 7 = X at *
  rw [← hX] at HS
  have HX := Lib.hid hX; clear hX
  go_wp2_with fail
  go_loop [4, 5, 6, 7] (fun o p i _ => ∃ k : Nat, k ≤ 8 ∧ i = .int .i64 k ∧ p = .int .i64 (2 ^ k : Nat) ∧ o = .int .i64 (rsb X k : Nat)) (fun _ _ i _ => 8 - (intOf i).toNat)
  case atStart => exact ⟨0, by omega, rfl, rfl, rfl⟩
  case round =>
    obtain ⟨k, hk, rfl, rfl, rfl⟩ := hrel
    by_cases hkn : k < 8
    · have h1 := rsb_lt X k
      have hP : 2 ^ k ≤ 128 := by
        have : (2 : Nat) ^ k ≤ 2 ^ 7 := Nat.pow_le_pow_right (by omega) (by omega)
        omega
      have H1 := Lib.hid (show rsb X (k + 1) = rsb X k + (btn X k + btn X ((k + 4) % 8) + btn X ((k + 5) % 8) + btn X ((k + 6) % 8) + btn X ((k + 7) % 8) + btn 99 k) % 2 * 2 ^ k from rfl)
      have H2 := Lib.hid (show 2 ^ (k + 1) = 2 ^ k * 2 from Nat.pow_succ 2 k)
      have l0 := btn_lt X k
      have l4 := btn_lt X ((k + 4) % 8)
      have l5 := btn_lt X ((k + 5) % 8)
      have l6 := btn_lt X ((k + 6) % 8)
      have l7 := btn_lt X ((k + 7) % 8)
      have l9 := btn_lt 99 k
      generalize g0 : btn X k = b0 at *
      generalize g4 : btn X ((k + 4) % 8) = b4 at *
      generalize g5 : btn X ((k + 5) % 8) = b5 at *
      generalize g6 : btn X ((k + 6) % 8) = b6 at *
      generalize g7 : btn X ((k + 7) % 8) = b7 at *
      generalize g9 : btn 99 k = b9 at *
      generalize rsb X k = R at *
      generalize 2 ^ k = P at *
      have E0 := Lib.hid g0; clear g0
      have E4 := Lib.hid g4; clear g4
      have E5 := Lib.hid g5; clear g5
      have E6 := Lib.hid g6; clear g6
      have E7 := Lib.hid g7; clear g7
      have E9 := Lib.hid g9; clear g9
      go_wp2_with fail
      refine (bit_any X _ _ hx (by omega) (by omega)).mono ?_
      rintro e w' ⟨rfl, rfl⟩
      rw [Int.toNat_natCast, E0.out]
      go_wp2_with fail
      refine (bit_any X _ _ hx (by omega) (by omega)).mono ?_
      rintro e w' ⟨rfl, rfl⟩
      rw [show (((k : Int) + 4) % 8).toNat = (k + 4) % 8 from by omega, E4.out]
      go_wp2_with fail
      refine (bit_any X _ _ hx (by omega) (by omega)).mono ?_
      rintro e w' ⟨rfl, rfl⟩
      rw [show (((k : Int) + 5) % 8).toNat = (k + 5) % 8 from by omega, E5.out]
      go_wp2_with fail
      refine (bit_any X _ _ hx (by omega) (by omega)).mono ?_
      rintro e w' ⟨rfl, rfl⟩
      rw [show (((k : Int) + 6) % 8).toNat = (k + 6) % 8 from by omega, E6.out]
      go_wp2_with fail
      refine (bit_any X _ _ hx (by omega) (by omega)).mono ?_
      rintro e w' ⟨rfl, rfl⟩
      rw [show (((k : Int) + 7) % 8).toNat = (k + 7) % 8 from by omega, E7.out]
      go_wp2_with fail
      refine (bit_any 99 _ _ (by omega) (by omega) (by omega)).mono ?_
      rintro e w' ⟨rfl, rfl⟩
      rw [Int.toNat_natCast, E9.out]
      rcases (show (b0 + b4 + b5 + b6 + b7 + b9) % 2 = 0 ∨ (b0 + b4 + b5 + b6 + b7 + b9) % 2 = 1 by omega) with hz | hz
      · have HZ := Lib.hid hz
        have hs : ((b0 : Int) + (b4 : Int) + (b5 : Int) + (b6 : Int) + (b7 : Int) + (b9 : Int)) % 2 = 0 := by omega
        clear hz
        go_wp2_with fail
        go_round
        case rel => exact ⟨k + 1, by omega, by go_num, by rw [H2.out]; go_num, by rw [H1.out, HZ.out]; go_num⟩
        case measure => simp [intOf]; omega
      · have HZ := Lib.hid hz
        have hs : ((b0 : Int) + (b4 : Int) + (b5 : Int) + (b6 : Int) + (b7 : Int) + (b9 : Int)) % 2 = 1 := by omega
        clear hz
        go_wp2_with fail
        go_round
        case rel => exact ⟨k + 1, by omega, by go_num, by rw [H2.out]; go_num, by rw [H1.out, HZ.out]; go_num⟩
        case measure => simp [intOf]; omega
    · have hk9 : k = 8 := by omega
      subst hk9
      go_wp2_with fail
      go_ret
      exact ⟨by rw [← HS.out, HX.out]; rfl, rfl⟩
end Go.Proofs.Ytlhakobfjokabaa
