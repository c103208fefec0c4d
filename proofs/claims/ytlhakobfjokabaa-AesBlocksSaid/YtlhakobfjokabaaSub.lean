/-
  The contracts of the substitution and of awake.
-/
import Derived.Test.YtlhakobfjokabaaWalks
namespace Go.Proofs.Ytlhakobfjokabaa
open Go.RowKit
/-- A byte turned. -/
def rot (b k : Nat) : Nat := b * 2 ^ k % 256 ||| b / 2 ^ (8 - k)
theorem rot_lt (b k : Nat) (hb : b < 256) : rot b k < 256 := by
  unfold rot
  have : b / 2 ^ (8 - k) ≤ b := Nat.div_le_self _ _
  exact Nat.or_lt_two_pow (n := 8) (by omega) (by omega)
set_option maxRecDepth 20000 in
set_option maxHeartbeats 400000 in
theorem rot_any (b : Nat) (k : Int) (w : World) (hb : b < 256) (h1 : 1 ≤ k) (h4 : k ≤ 4) :
    Calls Try.prog 32 #[.int .u8 b, .int .i64 k] w fun e w' => e = .returned (.int .u8 (rot b k.toNat : Nat)) ∧ w = w' := by
  rcases (show k = 1 ∨ k = 2 ∨ k = 3 ∨ k = 4 by omega) with rfl | rfl | rfl | rfl
  · have h7 : bits .and .u64 1 7 = 1 := by decide
    have ho : bits .or .u8 ((b : Int) * 2 % 256) ((b : Int) / 128) = ((rot b 1 : Nat) : Int) := u8_or_nat (b * 2 % 256) (b / 128) (by omega) (by omega)
    go_enter Try.func32, Try.ntmps32
    go_wp2
    go_ret
    exact ⟨rfl, rfl⟩
  · have h7 : bits .and .u64 2 7 = 2 := by decide
    have ho : bits .or .u8 ((b : Int) * 4 % 256) ((b : Int) / 64) = ((rot b 2 : Nat) : Int) := u8_or_nat (b * 4 % 256) (b / 64) (by omega) (by omega)
    go_enter Try.func32, Try.ntmps32
    go_wp2
    go_ret
    exact ⟨rfl, rfl⟩
  · have h7 : bits .and .u64 3 7 = 3 := by decide
    have ho : bits .or .u8 ((b : Int) * 8 % 256) ((b : Int) / 32) = ((rot b 3 : Nat) : Int) := u8_or_nat (b * 8 % 256) (b / 32) (by omega) (by omega)
    go_enter Try.func32, Try.ntmps32
    go_wp2
    go_ret
    exact ⟨rfl, rfl⟩
  · have h7 : bits .and .u64 4 7 = 4 := by decide
    have ho : bits .or .u8 ((b : Int) * 16 % 256) ((b : Int) / 16) = ((rot b 4 : Nat) : Int) := u8_or_nat (b * 16 % 256) (b / 16) (by omega) (by omega)
    go_enter Try.func32, Try.ntmps32
    go_wp2
    go_ret
    exact ⟨rfl, rfl⟩

/-- What is made of an inverse, after so many turns. -/
def aff (b : Nat) : Nat → Nat
  | 0 => b ^^^ 99
  | k + 1 => aff b k ^^^ rot b (k + 1)
theorem aff_lt (b : Nat) (hb : b < 256) : ∀ k, aff b k < 256
  | 0 => Nat.xor_lt_two_pow (n := 8) hb (by omega)
  | k + 1 => Nat.xor_lt_two_pow (n := 8) (aff_lt b hb k) (rot_lt b (k + 1) hb)

set_option maxRecDepth 20000 in
set_option maxHeartbeats 400000 in
theorem affine_any (b : Nat) (w : World) (hb : b < 256) :
    Calls Try.prog 21 #[.int .u8 b] w fun e w' => e = .returned (.int .u8 (aff b 4 : Nat)) ∧ w = w' := by
  have h0 : bits .xor .u8 (b : Int) 99 = ((aff b 0 : Nat) : Int) := u8_xor_nat b 99 hb (by omega)
  go_enter Try.func21, Try.ntmps21
  go_wp2
  go_loop [3, 4] (fun o i => ∃ k : Nat, k ≤ 4 ∧ i = .int .i64 (k + 1 : Nat) ∧ o = .int .u8 (aff b k : Nat)) (fun _ i => 5 - (intOf i).toNat)
  case atStart => exact ⟨0, by omega, rfl, rfl⟩
  case round =>
    obtain ⟨k, hk, rfl, rfl⟩ := hrel
    clear h0
    by_cases hk4 : k < 4
    · have hal := aff_lt b hb k
      have hrl := rot_lt b (k + 1) hb
      have hx : bits .xor .u8 ((aff b k : Nat) : Int) ((rot b (k + 1) : Nat) : Int) = ((aff b (k + 1) : Nat) : Int) := u8_xor_nat _ _ hal hrl
      have HX := Lib.hid hx; clear hx
      go_wp2_with fail
      refine (rot_any b _ _ hb (by omega) (by omega)).mono ?_
      rintro e w' ⟨rfl, rfl⟩
      rw [show ((k : Int) + 1).toNat = k + 1 from by omega]
      have hx := HX.out
      go_wp2_with fail
      go_round
      case rel => exact ⟨k + 1, by omega, by go_num, rfl⟩
      case measure => simp [intOf]; omega
    · have hk9 : k = 4 := by omega
      subst hk9
      go_wp2_with fail
      go_ret
      exact ⟨rfl, rfl⟩

theorem q254 : ∀ k : Nat, k < 7 → (bits .and .i64 ((254 : Int) / 2 ^ (7 - k)) 1 == 1) = true := by decide
theorem p254 : ∀ k : Nat, k < 7 → 254 / 2 ^ (7 - k) % 2 = 1 := by decide
set_option maxRecDepth 20000 in
set_option maxHeartbeats 400000 in
theorem Sub_any (b : Nat) (w : World) (hb : b < 256) :
    Calls Try.prog 12 #[.int .u8 b] w fun e w' => e = .returned (.int .u8 (aff (pw b 8) 4 : Nat)) ∧ w = w' := by
  go_enter Try.func12, Try.ntmps12
  go_wp2
  go_loop [3, 4] (fun o i => ∃ k : Nat, k ≤ 8 ∧ i = .int .i64 (7 - (k : Int)) ∧ o = .int .u8 (pw b k : Nat)) (fun _ i => (intOf i + 1).toNat)
  case atStart => exact ⟨0, by omega, rfl, rfl⟩
  case round =>
    obtain ⟨k, hk, rfl, rfl⟩ := hrel
    have hpl := pw_lt b hb k
    by_cases hk8 : k < 8
    · have HS := Lib.hid (show pw b (k + 1) = if 254 / 2 ^ (7 - k) % 2 = 1 then mul (mul (pw b k) (pw b k)) b else mul (pw b k) (pw b k) from rfl)
      generalize pw b k = P at *
      have hml := mul_lt P P hpl
      go_wp2_with fail
      refine (Times_any P P _ hpl hpl).mono ?_
      rintro e w' ⟨rfl, rfl⟩
      by_cases hk7 : k < 7
      · have hq := q254 k hk7
        go_wp2_with fail
        refine (Times_any _ b _ hml hb).mono ?_
        rintro e w' ⟨rfl, rfl⟩
        go_wp2_with fail
        go_round
        case rel => exact ⟨k + 1, by omega, by go_num, by rw [HS.out, if_pos (p254 k hk7)]⟩
        case measure => simp [intOf]; omega
      · have hk9 : k = 7 := by omega
        subst hk9
        have hq : (bits .and .i64 ((254 : Int) / 2 ^ (7 - 7)) 1 == 1) = false := by decide
        go_wp2_with fail
        go_round
        case rel => exact ⟨8, by omega, by go_num, by rw [HS.out, if_neg (by decide)]⟩
        case measure => simp [intOf]
    · have hk9 : k = 8 := by omega
      subst hk9
      go_wp2_with fail
      refine (affine_any _ _ hpl).mono ?_
      rintro e w' ⟨rfl, rfl⟩
      go_wp2_with fail
      go_ret
      exact ⟨rfl, rfl⟩

theorem awake_any (w : World) : Calls Try.prog 9 #[] w fun e w' => e = .returned (.bool true) ∧ w = w' := by
  have h1 : ∀ w : World, Calls Try.prog 10 #[.int .u8 2, .int .u8 3] w fun e w' => e = .returned (.int .u8 6) ∧ w = w' := fun w => Times_any 2 3 w (by omega) (by omega)
  have h2 : ∀ w : World, Calls Try.prog 12 #[.int .u8 0] w fun e w' => e = .returned (.int .u8 99) ∧ w = w' := fun w => by
    have h := Sub_any 0 w (by omega)
    rw [show aff (pw 0 8) 4 = 99 from by decide +kernel] at h
    exact h
  have H1 := Lib.hid h1; clear h1
  have H2 := Lib.hid h2; clear h2
  go_enter Try.func9, Try.ntmps9
  go_wp2_with fail
  refine (H1.out _).mono ?_
  rintro e w' ⟨rfl, rfl⟩
  go_wp2_with fail
  refine (H2.out _).mono ?_
  rintro e w' ⟨rfl, rfl⟩
  go_wp2_with fail
  go_ret
  exact ⟨rfl, rfl⟩
end Go.Proofs.Ytlhakobfjokabaa
