/-
  The contracts of the reference's functions: each returns what the plain function says, and writes nothing that was there.
-/
import Derived.Test.YtodgdkomiceamaaWalks
import Derived.Test.YtodgdkomiceamaaRef
namespace Go.Proofs.Ytodgdkomiceamaa
open Go.RowKit

theorem rv_le (k n : Nat) (h : k ≤ 32) : rv k n < 4294967296 := by
  have h1 := rv_lt k n
  have h2 : (2 : Nat) ^ k ≤ 2 ^ 32 := Nat.pow_le_pow_right (by omega) h
  omega

set_option maxHeartbeats 400000 in
theorem turn_any (n : Int) (size : Nat) (w : World) (h0 : 0 ≤ n) (h1 : n < 4294967296) (hs : size ≤ 32) :
    Calls Try.prog 16 #[.int .u64 n, .int .i64 size] w fun e w' => e = .returned (.int .u64 (rv size n.toNat : Nat)) ∧ w = w' := by
  obtain ⟨n, rfl⟩ := Int.eq_ofNat_of_zero_le h0
  rw [Int.toNat_natCast]
  go_enter Try.func16, Try.ntmps16
  go_wp2
  go_loop [0, 5, 6] (fun m o i => ∃ k : Nat, k ≤ size ∧ i = .int .i64 k ∧ m = .int .u64 (n / 2 ^ k : Nat) ∧ o = .int .u64 (rv k n : Nat)) (fun _ _ i => size - (intOf i).toNat)
  case atStart => exact ⟨0, Nat.zero_le _, rfl, by simp, rfl⟩
  case round =>
    obtain ⟨k, hk, rfl, rfl, rfl⟩ := hrel
    have hl := rv_le k n (by omega)
    by_cases hlt : k < size
    · have H1 := Lib.hid (show rv (k + 1) n = rv k n * 2 + n / 2 ^ k % 2 from rfl)
      have H2 := Lib.hid (show n / 2 ^ (k + 1) = n / 2 ^ k / 2 from by rw [Nat.pow_succ, Nat.div_div_eq_div_mul])
      have hN : n / 2 ^ k < 4294967296 := by
        have := Nat.div_le_self n (2 ^ k)
        omega
      generalize rv k n = O at *
      generalize n / 2 ^ k = N at *
      go_wp2
      go_round
      case rel => exact ⟨k + 1, by omega, by go_num, by rw [H2.out]; go_num, by rw [H1.out]; go_num⟩
      case measure => simp [intOf]; omega
    · have hk9 : k = size := by omega
      subst hk9
      go_wp2
      go_ret
      exact ⟨rfl, rfl⟩

/-- The powers of the long divisor. -/
def powers : List Nat := [28, 27, 26, 25, 23, 22, 20, 19, 18, 14, 13, 11, 10, 9, 8, 6, 0]
def dsum : Nat → Nat
  | 0 => 0
  | k + 1 => dsum k + 2 ^ powers.getD k 0
theorem dsum_le : ∀ k, k ≤ 17 → dsum k ≤ 517762881 := by decide
theorem powers_le (k : Nat) (h : k < 17) : powers.getD k 0 ≤ 28 := by
  revert k
  decide

theorem lit17 (w : World) (k : Nat) (h : k < 17) : (World.alloc w (Obj.cells #[Value.int IntKind.i64 28, Value.int IntKind.i64 27, Value.int IntKind.i64 26, Value.int IntKind.i64 25, Value.int IntKind.i64 23, Value.int IntKind.i64 22, Value.int IntKind.i64 20, Value.int IntKind.i64 19, Value.int IntKind.i64 18, Value.int IntKind.i64 14, Value.int IntKind.i64 13, Value.int IntKind.i64 11, Value.int IntKind.i64 10, Value.int IntKind.i64 9, Value.int IntKind.i64 8, Value.int IntKind.i64 6, Value.int IntKind.i64 0] 40)).cell? ⟨w.heap.size, k, none⟩ = some (.int .i64 (powers.getD k 0 : Nat)) := by
  rw [World.cell?_alloc_mark w #[Value.int IntKind.i64 28, Value.int IntKind.i64 27, Value.int IntKind.i64 26, Value.int IntKind.i64 25, Value.int IntKind.i64 23, Value.int IntKind.i64 22, Value.int IntKind.i64 20, Value.int IntKind.i64 19, Value.int IntKind.i64 18, Value.int IntKind.i64 14, Value.int IntKind.i64 13, Value.int IntKind.i64 11, Value.int IntKind.i64 10, Value.int IntKind.i64 9, Value.int IntKind.i64 8, Value.int IntKind.i64 6, Value.int IntKind.i64 0] 40 (0, 0) k]
  rcases (show k = 0 ∨ k = 1 ∨ k = 2 ∨ k = 3 ∨ k = 4 ∨ k = 5 ∨ k = 6 ∨ k = 7 ∨ k = 8 ∨ k = 9 ∨ k = 10 ∨ k = 11 ∨ k = 12 ∨ k = 13 ∨ k = 14 ∨ k = 15 ∨ k = 16 by omega) with rfl | rfl | rfl | rfl | rfl | rfl | rfl | rfl | rfl | rfl | rfl | rfl | rfl | rfl | rfl | rfl | rfl <;> rfl

theorem div16 (w : World) : Calls Try.prog 15 #[.int .i64 16] w fun e w' => e = .returned (.int .u64 4129) ∧ Below w.heap.size w w' := by
  go_enter Try.func15, Try.ntmps15
  go_wp2
  go_ret
  exact ⟨rfl, Below.refl _ _⟩

set_option maxHeartbeats 400000 in
theorem div32 (w : World) : Calls Try.prog 15 #[.int .i64 32] w fun e w' => e = .returned (.int .u64 517762881) ∧ Below w.heap.size w w' := by
  go_enter Try.func15, Try.ntmps15
  go_wp2_with fail
  generalize hW : World.alloc w (Obj.cells #[Value.int IntKind.i64 28, Value.int IntKind.i64 27, Value.int IntKind.i64 26, Value.int IntKind.i64 25, Value.int IntKind.i64 23, Value.int IntKind.i64 22, Value.int IntKind.i64 20, Value.int IntKind.i64 19, Value.int IntKind.i64 18, Value.int IntKind.i64 14, Value.int IntKind.i64 13, Value.int IntKind.i64 11, Value.int IntKind.i64 10, Value.int IntKind.i64 9, Value.int IntKind.i64 8, Value.int IntKind.i64 6, Value.int IntKind.i64 0] 40) = W1
  have hcl : ∀ k (h : k < 17), W1.cell? ⟨w.heap.size, k, none⟩ = some (.int .i64 (powers.getD k 0 : Nat)) := by
    intro k h
    rw [← hW]
    exact lit17 w k h
  have HB : Hid (Below w.heap.size w W1) := by
    have : Below w.heap.size w W1 := by
      rw [← hW]
      exact (Below.refl _ _).alloc (Nat.le_refl _) _
    exact Lib.hid this
  have HC := Lib.hid hcl
  clear hcl hW
  go_loop [3, 5, 6, 7] (fun n i _ _ => ∃ k : Nat, k ≤ 17 ∧ i = .int .i64 k ∧ n = .int .u64 (dsum k : Nat)) (fun _ i _ _ => 17 - (intOf i).toNat)
  case atStart => exact ⟨0, Nat.zero_le _, rfl, rfl⟩
  case round =>
    obtain ⟨k, hk, rfl, rfl⟩ := hrel
    by_cases hlt : k < 17
    · have hc := HC.out k hlt
      have hp := powers_le k hlt
      have hs := dsum_le k hk
      have hs2 : dsum k + 2 ^ powers.getD k 0 ≤ 517762881 := dsum_le (k + 1) hlt
      have H1 := Lib.hid (show dsum (k + 1) = dsum k + 2 ^ powers.getD k 0 from rfl)
      generalize dsum k = S at *
      generalize powers.getD k 0 = p at *
      have hb0 : 2 ^ p ≤ 268435456 := by
        have : (2 : Nat) ^ p ≤ 2 ^ 28 := Nat.pow_le_pow_right (by omega) hp
        omega
      have HP := Lib.hid hb0; clear hb0
      go_wp2
      go_loop [6, 7] (fun q j => ∃ m : Nat, m ≤ p ∧ j = .int .i64 m ∧ q = .int .u64 (2 ^ m : Nat)) (fun _ j => p - (intOf j).toNat)
      case atStart => exact ⟨0, Nat.zero_le _, rfl, rfl⟩
      case round =>
        obtain ⟨m, hm, rfl, rfl⟩ := hrel
        by_cases hmp : m < p
        · have H2 := Lib.hid (show 2 ^ (m + 1) = 2 ^ m * 2 from Nat.pow_succ 2 m)
          have hb1 : 2 ^ m ≤ 268435456 := by
            have : (2 : Nat) ^ m ≤ 2 ^ 28 := Nat.pow_le_pow_right (by omega) (by omega)
            omega
          generalize 2 ^ m = M at *
          go_wp2
          go_round
          case rel => exact ⟨m + 1, by omega, by go_num, by rw [H2.out]; go_num⟩
          case measure => simp [intOf]; omega
        · have hmp2 : m = p := by omega
          subst hmp2
          have h9 := HP.out
          generalize hM : 2 ^ m = M at *
          have HM := Lib.hid hM; clear hM
          go_wp2
          go_round
          case rel => exact ⟨k + 1, by omega, by go_num, by rw [H1.out, ← HM.out]; go_num⟩
          case measure => simp [intOf]; omega
    · have hk9 : k = 17 := by omega
      subst hk9
      have hd : ((dsum 17 : Nat) : Int) = 517762881 := by decide
      rw [hd]
      go_wp2
      go_ret
      exact ⟨rfl, HB.out⟩
end Go.Proofs.Ytodgdkomiceamaa
