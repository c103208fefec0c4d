/-
  CrcSums: the contracts of the reference's Sum, of both byte forms, of Size, and the law's walk.
-/
import Derived.Test.YtodgdkomiceamaaRefWalks
import Derived.Test.YtodgdkomiceamaaBits
namespace Go.Proofs.Ytodgdkomiceamaa
open Go.RowKit

set_option maxHeartbeats 1000000 in
theorem Sum_of (W D : Nat) (b : ByteArray) (w : World) (hW0 : 1 ≤ W) (hW : W ≤ 32) (hD : D < 2 ^ W) (hb : b.size ≤ maxLen)
    (hdiv : ∀ w : World, Calls Try.prog 15 #[.int .i64 (W : Int)] w fun e w' => e = .returned (.int .u64 (D : Int)) ∧ Below w.heap.size w w') :
    Calls Try.prog 10 #[.int .i64 (W : Int), .string b] w fun e w' => e = .returned (.int .u64 (rsum W D b.data.toList : Nat)) ∧ Below w.heap.size w w' := by
  unfold maxLen at hb
  have HD := Lib.hid hdiv; clear hdiv
  have HDl := Lib.hid hD; clear hD
  go_enter Try.func10, Try.ntmps10
  go_wp2_with fail
  go_loop [5, 6] (fun t i => ∃ k : Nat, k ≤ W ∧ i = .int .i64 k ∧ t = .int .u64 (2 ^ k : Nat)) (fun _ i => W - (intOf i).toNat)
  case atStart => exact ⟨0, Nat.zero_le _, rfl, rfl⟩
  case round =>
    obtain ⟨k, hk, rfl, rfl⟩ := hrel
    have hb1 : 2 ^ k ≤ 4294967296 := by
      have : (2 : Nat) ^ k ≤ 2 ^ 32 := Nat.pow_le_pow_right (by omega) (by omega)
      omega
    by_cases hlt : k < W
    · have H2 := Lib.hid (show 2 ^ (k + 1) = 2 ^ k * 2 from Nat.pow_succ 2 k)
      generalize 2 ^ k = M at *
      go_wp2_with fail
      go_round
      case rel => exact ⟨k + 1, by omega, by go_num, by rw [H2.out]; go_num⟩
      case measure => simp [intOf]; omega
    · have hkW : k = W := by omega
      subst hkW
      have hb2 : 2 ≤ 2 ^ k := by
        have : (2 : Nat) ^ 1 ≤ 2 ^ k := Nat.pow_le_pow_right (by omega) hW0
        omega
      have hT2 : Hid (2 ^ k / 2 = 2 ^ (k - 1)) := by
        have : 2 ^ k / 2 = 2 ^ (k - 1) := by
          have : 2 ^ k = 2 ^ (k - 1) * 2 := by
            rw [← Nat.pow_succ]
            congr 1
            omega
          omega
        exact Lib.hid this
      generalize hT : 2 ^ k = T at hb1 hb2 hT2 ⊢
      have HT := Lib.hid hT; clear hT
      go_wp2_with fail
      refine (HD.out _).mono ?_
      rintro e w1 ⟨rfl, hbel⟩
      have HB := Lib.hid hbel; clear hbel
      go_wp2_with fail
      have hd1 : D < T := by have := HDl.out; rw [HT.out] at this; exact this
      go_loop [7, 9, 10, 11, 12, 13] (fun r i _ _ _ _ => ∃ j : Nat, j ≤ b.size ∧ i = .int .i64 j ∧ r = .int .u64 (rdiv k D (T - 1) (b.data.toList.take j) : Nat)) (fun _ i _ _ _ _ => b.size - (intOf i).toNat)
      case atStart => exact ⟨0, Nat.zero_le _, rfl, by show _ = Value.int IntKind.u64 ((T - 1 : Nat) : Int); go_num⟩
      case round =>
        obtain ⟨j, hj, rfl, rfl⟩ := hrel
        have hR : rdiv k D (T - 1) (b.data.toList.take j) < T := by
          have := rdiv_lt k D HDl.out (b.data.toList.take j) (T - 1) (by rw [HT.out]; omega)
          rw [HT.out] at this
          exact this
        by_cases hlt : j < b.size
        · have H1 := Lib.hid (rdiv_take k D (T - 1) b j hlt)
          generalize rdiv k D (T - 1) (b.data.toList.take j) = R at *
          have hc8 := b[j].toNat_lt
          have H1b := Lib.hid (show rdiv k D (T - 1) (b.data.toList.take (j + 1)) = rbits k D R b[j].toNat 8 from H1.out)
          have hw64 : wrap64 (b[j].toNat : Int) = (b[j].toNat : Int) := IntWalk.wrap64_in _ ⟨by omega, by omega⟩
          generalize hC : b[j].toNat = C at *
          rw [← hC] at hw64
          have HC := Lib.hid hC; clear hC
          go_wp2_with fail
          go_loop [7, 10, 11, 12, 13] (fun r c i _ _ => ∃ m : Nat, m ≤ 8 ∧ i = .int .i64 m ∧ c = .int .i64 (C / 2 ^ m : Nat) ∧ r = .int .u64 (rbits k D R C m : Nat)) (fun _ _ i _ _ => 8 - (intOf i).toNat)
          case atStart => exact ⟨0, Nat.zero_le _, rfl, by simp [HC.out], rfl⟩
          case round =>
            obtain ⟨m, hm, rfl, rfl, rfl⟩ := hrel
            have hR1 : rbits k D R C m < T := by
              have := rbits_lt k D R C (by rw [HT.out]; exact hR) HDl.out m
              rw [HT.out] at this
              exact this
            by_cases hm8 : m < 8
            · have H2 := Lib.hid (show rbits k D R C (m + 1) = rbit k D (rbits k D R C m) (C / 2 ^ m % 2) from rfl)
              have H3 := Lib.hid (show C / 2 ^ (m + 1) = C / 2 ^ m / 2 from by rw [Nat.pow_succ, Nat.div_div_eq_div_mul])
              have hC1 : C / 2 ^ m < 256 := by
                have := Nat.div_le_self C (2 ^ m)
                omega
              generalize rbits k D R C m = R1 at *
              generalize C / 2 ^ m = C1 at *
              have hx : bits .xor .u64 ((R1 : Int) * 2 % (T : Int)) (D : Int) = ((R1 * 2 % T ^^^ D : Nat) : Int) := by
                have h1 : R1 * 2 % T < T := Nat.mod_lt _ (by omega)
                exact u64_xor_nat (R1 * 2 % T) D (by omega) (by omega)
              have hwr : IntKind.u64.wrap ((R1 : Int) / ((T : Int) / 2)) = (R1 : Int) / ((T : Int) / 2) := by
                have h1 : R1 / (T / 2) ≤ R1 := Nat.div_le_self _ _
                have h2 : ((R1 : Int) / ((T : Int) / 2)) = ((R1 / (T / 2) : Nat) : Int) := rfl
                rw [IntKind.wrap_u64, h2]
                generalize R1 / (T / 2) = Z at *
                omega
              by_cases hq : R1 / (T / 2) = C1 % 2
              · have hq1 : (((R1 : Int) / ((T : Int) / 2)) != ((C1 : Int) % 2)) = false := by
                  have : ((R1 : Int) / ((T : Int) / 2)) = ((C1 : Int) % 2) := by
                    have := congrArg (Nat.cast (R := Int)) hq
                    exact this
                  rw [this]
                  simp
                have HQ := Lib.hid hq; clear hq
                go_wp2_with fail
                go_round
                case rel => exact ⟨m + 1, by omega, by go_num, by rw [H3.out]; go_num, by rw [H2.out, rbit, HT.out, ← hT2.out, if_neg (by simp [HQ.out])]; rfl⟩
                case measure => simp [intOf]; omega
              · have hq1 : (((R1 : Int) / ((T : Int) / 2)) != ((C1 : Int) % 2)) = true := by
                  rw [bne_iff_ne]
                  intro e
                  apply hq
                  have : ((R1 / (T / 2) : Nat) : Int) = ((C1 % 2 : Nat) : Int) := e
                  omega
                have HQ := Lib.hid hq; clear hq
                go_wp2_with fail
                go_round
                case rel => exact ⟨m + 1, by omega, by go_num, by rw [H3.out]; go_num, by rw [H2.out, rbit, HT.out, ← hT2.out, if_pos HQ.out]⟩
                case measure => simp [intOf]; omega
            · have hm9 : m = 8 := by omega
              subst hm9
              go_wp2_with fail
              go_round
              case rel => exact ⟨j + 1, by omega, by go_num, by rw [H1b.out]⟩
              case measure => simp [intOf]; omega
        · have hk9 : b.data.toList.take j = b.data.toList := List.take_of_length_le (by simp; show b.size ≤ j; omega)
          rw [hk9] at hR ⊢
          have HR := Lib.hid (show rsum k D b.data.toList = rv k (T - 1 - rdiv k D (T - 1) b.data.toList) from by unfold rsum; rw [HT.out])
          generalize rdiv k D (T - 1) b.data.toList = R at *
          go_wp2_with fail
          refine (turn_any _ k _ (by omega) (by omega) (by omega)).mono ?_
          rintro e w' ⟨rfl, rfl⟩
          go_wp2_with fail
          go_ret
          refine ⟨?_, HB.out⟩
          rw [HR.out]
          rfl
end Go.Proofs.Ytodgdkomiceamaa
