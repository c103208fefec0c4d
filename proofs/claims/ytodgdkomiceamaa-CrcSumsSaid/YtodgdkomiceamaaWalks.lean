/-
  The contracts of the program's checksum functions: each returns what the plain function says, and writes nothing that was there.
-/
import Derived.Test.YtodgdkomiceamaaRows
import Derived.Test.YtodgdkomiceamaaPlain
import Derived.WalkKit
import Derived.WalkLawsBesides
import Derived.WalkSpells
import Derived.Lib.Hide
namespace Go.Proofs.Ytodgdkomiceamaa
open Go.RowKit

/-- What a conversion of a string to bytes leaves. -/
theorem conv_bytes (w : World) (s : ByteArray) : ∃ (W1 : World) (cap : Nat), (convert 9 24 (.string s)).run Try.prog w = .ok (.slice (some ⟨w.heap.size, 0, none⟩) s.size cap) W1 ∧
    (∀ i (h : i < s.size), W1.cell? ⟨w.heap.size, i, none⟩ = some (.int .u8 (s[i].toNat : Int))) ∧ (∀ i, i < s.size → W1.frozen? ⟨w.heap.size, i, none⟩ = false) ∧ Below w.heap.size w W1 ∧ w.heap.size < W1.heap.size := by
  refine ⟨_, _, run_bytes_of_string w 9 24 5 s Try.underlying9 Try.underlying24 Try.underlying5, ?_, ?_, ?_, ?_⟩
  · intro i h
    have := World.cell?_alloc_mark w.drew (bytesRow s (grownCap w s.size 0 5)) 5 ((bytesRow s (grownCap w s.size 0 5)).size, (bytesRow s (grownCap w s.size 0 5)).size + 1) i
    rw [show w.drew.heap.size = w.heap.size from rfl] at this
    rw [this, bytesRow_at s _ i h]
    rfl
  · intro i h
    have := World.frozen?_alloc_mark w.drew (bytesRow s (grownCap w s.size 0 5)) 5 (bytesRow s (grownCap w s.size 0 5)).size ((bytesRow s (grownCap w s.size 0 5)).size + 1) i
    rw [show w.drew.heap.size = w.heap.size from rfl] at this
    rw [this]
    have hz : s.size ≤ (bytesRow s (grownCap w s.size 0 5)).size := by
      rw [bytesRow, Array.size_append, Array.size_map]
      show s.data.size ≤ _
      omega
    simp
    omega
  · exact (Below.refl _ _).drew.alloc (Nat.le_refl _) _
  · show w.heap.size < (w.heap.push _).size
    simp

theorem and16 (s : Nat) (h : s < 65536) : bits .and .u16 (s : Int) 1 = ((s % 2 : Nat) : Int) := by
  have := u16_and_nat s 1 h (by decide)
  rw [Nat.and_one_is_mod] at this
  exact this
theorem half16 (s : Nat) (h : s < 65536) : bits .xor .u16 ((s : Int) / 2) 33800 = ((s / 2 ^^^ 33800 : Nat) : Int) :=
  u16_xor_nat (s / 2) 33800 (by omega) (by decide)

set_option maxHeartbeats 400000 in
theorem divide16 (n : Nat) (b : ByteArray) (w : World) (hn : n < 65536) (hb : b.size ≤ maxLen) :
    Calls Try.prog 13 #[.int .u16 n, .int .u16 33800, .string b] w fun e w' => e = .returned (.int .u16 (dvd 33800 n b.data.toList : Nat)) ∧ Below w.heap.size w w' := by
  unfold maxLen at hb
  obtain ⟨W1, cap, hconv, hcell, hfr, hbel, hsz⟩ := conv_bytes w b
  clear hfr hsz
  have HB := Lib.hid hbel; clear hbel
  have HC := Lib.hid hcell; clear hcell
  go_enter Try.func13, Try.ntmps13
  go_wp2
  clear hconv
  go_loop [0, 8, 12, 20] (fun s _ i _ => ∃ k : Nat, k ≤ b.size ∧ i = .int .i64 k ∧ s = .int .u16 (dvd 33800 n (b.data.toList.take k) : Nat)) (fun _ _ i _ => b.size - (intOf i).toNat)
  case atStart => exact ⟨0, Nat.zero_le _, rfl, rfl⟩
  case round =>
    obtain ⟨k, hk, rfl, rfl⟩ := hrel
    have hlt0 := dvd_lt (by_ := 33800) (j := 16) (by decide) (by decide) (b.data.toList.take k) n hn
    by_cases hlt : k < b.size
    · have hc := HC.out k hlt
      have hts := Lib.hid (dvd_take 33800 n b k hlt)
      generalize dvd 33800 n (b.data.toList.take k) = S at *
      have hc8 := b[k].toNat_lt
      have hx : bits .xor .u16 (S : Int) (b[k].toNat : Int) = ((S ^^^ b[k].toNat : Nat) : Int) := u16_xor_nat _ _ hlt0 (by omega)
      have hxl : S ^^^ b[k].toNat < 65536 := Nat.xor_lt_two_pow (n := 16) hlt0 (by omega)
      go_wp2
      generalize hsx : S ^^^ b[k].toNat = s0 at *
      have HS := Lib.hid hsx; clear hsx hx
      go_loop [0, 20] (fun s i => ∃ j : Nat, j ≤ 8 ∧ i = .int .i64 j ∧ s = .int .u16 (rnd 33800 j s0 : Nat)) (fun _ i => 8 - (intOf i).toNat)
      case atStart => exact ⟨0, Nat.zero_le _, rfl, rfl⟩
      case round =>
        obtain ⟨j, hj, rfl, rfl⟩ := hrel
        have hlt1 := rnd_lt (by_ := 33800) (j := 16) (by decide) j s0 hxl
        by_cases hj8 : j < 8
        · have hst := Lib.hid (show rnd 33800 (j + 1) s0 = stp 33800 (rnd 33800 j s0) from rfl)
          generalize rnd 33800 j s0 = S1 at *
          have ha := and16 S1 hlt1
          have hh := half16 S1 hlt1
          by_cases hp : S1 % 2 = 1
          · have HP := Lib.hid hp
            have ha1 : (bits .and .u16 (S1 : Int) 1 == 1) = true := by rw [ha, hp]; rfl
            clear ha hp
            go_wp2
            all_goals
              go_round
              case rel => exact ⟨j + 1, by omega, by go_num, by rw [hst.out, stp, if_pos HP.out]⟩
              case measure => simp [intOf]; omega
          · have HP := Lib.hid hp
            have ha1 : (bits .and .u16 (S1 : Int) 1 == 1) = false := by
              rw [ha, beq_eq_false_iff_ne]
              omega
            clear ha hp
            go_wp2
            all_goals
              go_round
              case rel => exact ⟨j + 1, by omega, by go_num, by rw [hst.out, stp, if_neg HP.out]; rfl⟩
              case measure => simp [intOf]; omega
        · have hj9 : j = 8 := by omega
          subst hj9
          go_wp2
          all_goals
            go_round
            case rel => exact ⟨k + 1, by omega, by go_num, by rw [hts.out, byt, HS.out]⟩
            case measure => simp [intOf]; omega
    · have hk9 : b.data.toList.take k = b.data.toList := List.take_of_length_le (by simp; show b.size ≤ k; omega)
      have HK := Lib.hid hk9; clear hk9
      go_wp2
      go_ret
      exact ⟨by rw [HK.out]; rfl, HB.out⟩
theorem and32 (s : Nat) (h : s < 4294967296) : bits .and .u32 (s : Int) 1 = ((s % 2 : Nat) : Int) := by
  have := u32_and_nat s 1 h (by decide)
  rw [Nat.and_one_is_mod] at this
  exact this
theorem half32 (s : Nat) (h : s < 4294967296) : bits .xor .u32 ((s : Int) / 2) 2197175160 = ((s / 2 ^^^ 2197175160 : Nat) : Int) :=
  u32_xor_nat (s / 2) 2197175160 (by omega) (by decide)

set_option maxHeartbeats 400000 in
theorem divide32 (n : Nat) (b : ByteArray) (w : World) (hn : n < 4294967296) (hb : b.size ≤ maxLen) :
    Calls Try.prog 14 #[.int .u32 n, .int .u32 2197175160, .string b] w fun e w' => e = .returned (.int .u32 (dvd 2197175160 n b.data.toList : Nat)) ∧ Below w.heap.size w w' := by
  unfold maxLen at hb
  obtain ⟨W1, cap, hconv, hcell, hfr, hbel, hsz⟩ := conv_bytes w b
  clear hfr hsz
  have HB := Lib.hid hbel; clear hbel
  have HC := Lib.hid hcell; clear hcell
  go_enter Try.func14, Try.ntmps14
  go_wp2
  clear hconv
  go_loop [0, 8, 12, 20] (fun s _ i _ => ∃ k : Nat, k ≤ b.size ∧ i = .int .i64 k ∧ s = .int .u32 (dvd 2197175160 n (b.data.toList.take k) : Nat)) (fun _ _ i _ => b.size - (intOf i).toNat)
  case atStart => exact ⟨0, Nat.zero_le _, rfl, rfl⟩
  case round =>
    obtain ⟨k, hk, rfl, rfl⟩ := hrel
    have hlt0 := dvd_lt (by_ := 2197175160) (j := 32) (by decide) (by decide) (b.data.toList.take k) n hn
    by_cases hlt : k < b.size
    · have hc := HC.out k hlt
      have hts := Lib.hid (dvd_take 2197175160 n b k hlt)
      generalize dvd 2197175160 n (b.data.toList.take k) = S at *
      have hc8 := b[k].toNat_lt
      have hx : bits .xor .u32 (S : Int) (b[k].toNat : Int) = ((S ^^^ b[k].toNat : Nat) : Int) := u32_xor_nat _ _ hlt0 (by omega)
      have hxl : S ^^^ b[k].toNat < 4294967296 := Nat.xor_lt_two_pow (n := 32) hlt0 (by omega)
      go_wp2
      generalize hsx : S ^^^ b[k].toNat = s0 at *
      have HS := Lib.hid hsx; clear hsx hx
      go_loop [0, 20] (fun s i => ∃ j : Nat, j ≤ 8 ∧ i = .int .i64 j ∧ s = .int .u32 (rnd 2197175160 j s0 : Nat)) (fun _ i => 8 - (intOf i).toNat)
      case atStart => exact ⟨0, Nat.zero_le _, rfl, rfl⟩
      case round =>
        obtain ⟨j, hj, rfl, rfl⟩ := hrel
        have hlt1 := rnd_lt (by_ := 2197175160) (j := 32) (by decide) j s0 hxl
        by_cases hj8 : j < 8
        · have hst := Lib.hid (show rnd 2197175160 (j + 1) s0 = stp 2197175160 (rnd 2197175160 j s0) from rfl)
          generalize rnd 2197175160 j s0 = S1 at *
          have ha := and32 S1 hlt1
          have hh := half32 S1 hlt1
          by_cases hp : S1 % 2 = 1
          · have HP := Lib.hid hp
            have ha1 : (bits .and .u32 (S1 : Int) 1 == 1) = true := by rw [ha, hp]; rfl
            clear ha hp
            go_wp2
            all_goals
              go_round
              case rel => exact ⟨j + 1, by omega, by go_num, by rw [hst.out, stp, if_pos HP.out]⟩
              case measure => simp [intOf]; omega
          · have HP := Lib.hid hp
            have ha1 : (bits .and .u32 (S1 : Int) 1 == 1) = false := by
              rw [ha, beq_eq_false_iff_ne]
              omega
            clear ha hp
            go_wp2
            all_goals
              go_round
              case rel => exact ⟨j + 1, by omega, by go_num, by rw [hst.out, stp, if_neg HP.out]; rfl⟩
              case measure => simp [intOf]; omega
        · have hj9 : j = 8 := by omega
          subst hj9
          go_wp2
          all_goals
            go_round
            case rel => exact ⟨k + 1, by omega, by go_num, by rw [hts.out, byt, HS.out]⟩
            case measure => simp [intOf]; omega
    · have hk9 : b.data.toList.take k = b.data.toList := List.take_of_length_le (by simp; show b.size ≤ k; omega)
      have HK := Lib.hid hk9; clear hk9
      go_wp2
      go_ret
      exact ⟨by rw [HK.out]; rfl, HB.out⟩

theorem not16 (l : List UInt8) : bits .xor .u16 IntKind.u16.max (dvd 33800 65535 l : Nat) = (x25 l : Nat) := by
  have h := d16_lt l
  have h1 := u16_xor_nat 65535 (dvd 33800 65535 l) (by decide) h
  have h2 := ones_xor 16 (dvd 33800 65535 l) h
  rw [show 65535 ^^^ dvd 33800 65535 l = 65535 - dvd 33800 65535 l from h2] at h1
  exact h1
theorem not32 (l : List UInt8) : bits .xor .u32 IntKind.u32.max (dvd 2197175160 4294967295 l : Nat) = (cas l : Nat) := by
  have h := d32_lt l
  have h1 := u32_xor_nat 4294967295 (dvd 2197175160 4294967295 l) (by decide) h
  have h2 := ones_xor 32 (dvd 2197175160 4294967295 l) h
  rw [show 4294967295 ^^^ dvd 2197175160 4294967295 l = 4294967295 - dvd 2197175160 4294967295 l from h2] at h1
  exact h1

theorem chain {a b c : World} (h1 : Below a.heap.size a b) (h2 : Below b.heap.size b c) : Below a.heap.size a c := h1.trans (h2.mono h1.size)

theorem X25_any (b : ByteArray) (w : World) (hb : b.size ≤ maxLen) :
    Calls Try.prog 7 #[.string b] w fun e w' => e = .returned (.int .u16 (x25 b.data.toList : Nat)) ∧ Below w.heap.size w w' := by
  have HL := Lib.hid (not16 b.data.toList)
  have hs : ¬ IntKind.u16.signed = true := by decide
  go_enter Try.func7, Try.ntmps7
  go_wp2_with (go_at_call 13; refine (divide16 65535 _ _ (by omega) hb).mono ?_; rintro e w' ⟨rfl, hbel⟩)
  go_ret
  exact ⟨by rw [HL.out]; rfl, hbel⟩

theorem Cas_any (b : ByteArray) (w : World) (hb : b.size ≤ maxLen) :
    Calls Try.prog 8 #[.string b] w fun e w' => e = .returned (.int .u32 (cas b.data.toList : Nat)) ∧ Below w.heap.size w w' := by
  have HL := Lib.hid (not32 b.data.toList)
  have hs : ¬ IntKind.u32.signed = true := by decide
  go_enter Try.func8, Try.ntmps8
  go_wp2_with (go_at_call 14; refine (divide32 4294967295 _ _ (by omega) hb).mono ?_; rintro e w' ⟨rfl, hbel⟩)
  go_ret
  exact ⟨by rw [HL.out]; rfl, hbel⟩

theorem awake_any (w : World) : Calls Try.prog 6 #[] w fun e w' => e = .returned (.bool true) ∧ Below w.heap.size w w' := by
  have h1 : ((x25 nine : Nat) : Int) = 36974 := by rw [x25_nine]; rfl
  have h2 : ((cas nine : Nat) : Int) = 3808858755 := by rw [cas_nine]; rfl
  have H1 : ∀ w : World, Calls Try.prog 7 #[.string ⟨#[49, 50, 51, 52, 53, 54, 55, 56, 57]⟩] w fun e w' => e = .returned (.int .u16 36974) ∧ Below w.heap.size w w' := fun w => by
    have := X25_any ⟨#[49, 50, 51, 52, 53, 54, 55, 56, 57]⟩ w (by decide)
    rw [← h1]
    exact this
  have H2 : ∀ w : World, Calls Try.prog 8 #[.string ⟨#[49, 50, 51, 52, 53, 54, 55, 56, 57]⟩] w fun e w' => e = .returned (.int .u32 3808858755) ∧ Below w.heap.size w w' := fun w => by
    have := Cas_any ⟨#[49, 50, 51, 52, 53, 54, 55, 56, 57]⟩ w (by decide)
    rw [← h2]
    exact this
  clear h1 h2
  have H1 := Lib.hid H1
  have H2 := Lib.hid H2
  go_enter Try.func6, Try.ntmps6
  go_wp2_with fail
  refine (H1.out _).mono ?_
  rintro e w1 ⟨rfl, hb1⟩
  go_wp2_with fail
  refine (H2.out _).mono ?_
  rintro e w2 ⟨rfl, hb2⟩
  go_wp2_with fail
  go_ret
  exact ⟨rfl, chain hb1 hb2⟩
end Go.Proofs.Ytodgdkomiceamaa
