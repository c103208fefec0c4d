/-
  CrcThree: the walk.
-/
import Derived.Test.YtodgdkomiceamaaBits
import Derived.Test.YtodgdkomiceamaaLaw
namespace Go.Proofs.Ytodgdkomiceamaa
open Go.RowKit

/-- The cells of a row are what f says. -/
def RowF (w : World) (B n : Nat) (f : Nat → UInt8) : Prop :=
  (∀ j, j < n → w.cell? ⟨B, j, none⟩ = some (.int .u8 ((f j).toNat : Int))) ∧ ∀ j, j < n → w.frozen? ⟨B, j, none⟩ = false

theorem row_step {wr : World} {B n k : Nat} {X : Nat → UInt8} {v : Int} (h : RowF wr B n (fun j => if j < k then X j else 0)) (hk : k < n) (hv : v = ((X k).toNat : Int)) :
    RowF (wr.setCell ⟨B, k, none⟩ (.int .u8 v)).drew B n (fun j => if j < k + 1 then X j else 0) := by
  constructor
  · intro j hj
    rw [World.cell?_drew]
    by_cases e : k = j
    · subst e
      rw [World.cell?_setCell_same _ _ _ (h.1 k hk), hv]
      simp
    · have hne : (⟨B, k, none⟩ : Addr) ≠ ⟨B, j, none⟩ := fun e2 => e (congrArg Addr.off e2)
      rw [World.cell?_setCell_other (h := hne), h.1 j hj]
      have : (j < k + 1) = (j < k) := by
        apply propext
        omega
      simp only [this]
  · intro j hj
    have := h.2 j hj
    simp [this]
theorem at_byte (a : ByteArray) (k : Nat) (h : k < a.size) : a[k] = a.data.getD k 0 := by
  unfold Array.getD
  rw [dif_pos (show k < a.data.size from h)]
  rfl
theorem xor88 (a b c a' b' c' : UInt8) (ha : a = a') (hb : b = b') (hc : c = c') : bits .xor .u8 (bits .xor .u8 (a.toNat : Int) (b.toNat : Int)) (c.toNat : Int) = ((a' ^^^ b' ^^^ c').toNat : Int) := by
  subst ha hb hc
  rw [u8_xor_nat _ _ a.toNat_lt b.toNat_lt, u8_xor_nat _ _ (Nat.xor_lt_two_pow a.toNat_lt b.toNat_lt) c.toNat_lt, UInt8.toNat_xor, UInt8.toNat_xor]

/-- What a make of bytes leaves. -/
theorem make_bytes (w : World) (n : Nat) (hn : n ≤ 1000) : ∃ (W1 : World), (Instr.makeSlice 24 (.int .i64 (n : Int)) (.int .i64 (n : Int))).run Try.prog w = .ok (.slice (some ⟨w.heap.size, 0, none⟩) n n) W1 ∧
    (∀ i, i < n → W1.cell? ⟨w.heap.size, i, none⟩ = some (.int .u8 0)) ∧ (∀ i, i < n → W1.frozen? ⟨w.heap.size, i, none⟩ = false) ∧ Below w.heap.size w W1 ∧ w.heap.size < W1.heap.size := by
  obtain ⟨i0, hi, hz0, hz1, hz2⟩ := info_parts (P := Try.prog) (e := 5) (z := .int .u8 0) (size := 1) (bytes := 1) (by kernel_rfl)
  have h := run_make (P := Try.prog) w 24 5 i0 (.int .u8 0) Try.underlying24 hi hz0 .i64 .i64 n n (by omega) (by omega) (by rw [hz2]; omega) (by omega)
  rw [Int.toNat_natCast, hz1] at h
  refine ⟨_, h, ?_, ?_, ?_, ?_⟩
  · intro i h
    have := World.cell?_alloc_mark w (madeCells (Value.int .u8 0).cells (n * 1)) 5 (0, 0) i
    rw [this]
    have e : (Value.int .u8 0).cells = #[Value.int .u8 0] := rfl
    rw [e, madeCells]
    simp [h, Nat.mod_one]
  · intro i h
    have := World.frozen?_alloc_mark w (madeCells (Value.int .u8 0).cells (n * 1)) 5 0 0 i
    rw [this]
    simp
  · exact (Below.refl _ _).alloc (Nat.le_refl _) _
  · show w.heap.size < (w.heap.push _).size
    simp

/-- The three texts' bytes, exclusively or'd. -/
def xor3 (a b c : ByteArray) : List UInt8 := List.zipWith (· ^^^ ·) (List.zipWith (· ^^^ ·) a.data.toList b.data.toList) c.data.toList
theorem xor3_len (a b c : ByteArray) (hb : b.size = a.size) (hc : c.size = a.size) : (xor3 a b c).length = a.size := by
  unfold xor3
  rw [List.length_zipWith, List.length_zipWith, Array.length_toList, Array.length_toList, Array.length_toList]
  show min (min a.size b.size) c.size = a.size
  omega
theorem three_len (a b c : ByteArray) (hb : b.size = a.size) (hc : c.size = a.size) : (⟨(xor3 a b c).toArray⟩ : ByteArray).size = a.size := by
  show (xor3 a b c).toArray.size = a.size
  rw [List.size_toArray]
  exact xor3_len a b c hb hc
theorem zip3_at (x y z : List UInt8) (j : Nat) (h : j < (List.zipWith (· ^^^ ·) (List.zipWith (· ^^^ ·) x y) z).length) (h1 : j < x.length) (h2 : j < y.length) (h3 : j < z.length) :
    (List.zipWith (· ^^^ ·) (List.zipWith (· ^^^ ·) x y) z)[j] = x[j] ^^^ y[j] ^^^ z[j] := by
  rw [List.getElem_zipWith, List.getElem_zipWith]
theorem xor3_at (a b c : ByteArray) (j : Nat) (h : j < (xor3 a b c).length) : (xor3 a b c)[j] = a.data.getD j 0 ^^^ b.data.getD j 0 ^^^ c.data.getD j 0 := by
  have h2 := h
  unfold xor3 at h2
  rw [List.length_zipWith, List.length_zipWith, Array.length_toList, Array.length_toList, Array.length_toList] at h2
  have e1 := at_byte a j (by show j < a.data.size; omega)
  have e2 := at_byte b j (by show j < b.data.size; omega)
  have e3 := at_byte c j (by show j < c.data.size; omega)
  rw [← e1, ← e2, ← e3]
  exact zip3_at a.data.toList b.data.toList c.data.toList j h (by rw [Array.length_toList]; omega) (by rw [Array.length_toList]; omega) (by rw [Array.length_toList]; omega)
theorem three_back (W : World) (B : Nat) (a b c : ByteArray) (hb : b.size = a.size) (hc : c.size = a.size) (h : RowF W B a.size (fun j => if j < a.size then a.data.getD j 0 ^^^ b.data.getD j 0 ^^^ c.data.getD j 0 else 0)) :
    (convert 24 9 (.slice (some ⟨B, 0, none⟩) a.size a.size)).run Try.prog W = .ok (.string ⟨(xor3 a b c).toArray⟩) W := by
  have hl := xor3_len a b c hb hc
  have := back_of W B a.size (xor3 a b c) (fun i hi => by
    have e := h.1 i (by omega)
    simp only [if_pos (show i < a.size by omega)] at e
    rw [e, xor3_at])
  rw [hl] at this
  exact this
theorem three_x25 (a b c : ByteArray) (hb : b.size = a.size) (hc : c.size = a.size) :
    (bits .xor .u16 (bits .xor .u16 (x25 a.data.toList : Nat) (x25 b.data.toList : Nat)) (x25 c.data.toList : Nat) == ((x25 (xor3 a b c) : Nat) : Int)) = true := by
  have h1 := x25_lt a.data.toList
  have h2 := x25_lt b.data.toList
  have h3 := x25_lt c.data.toList
  rw [u16_xor_nat _ _ h1 h2, u16_xor_nat _ _ (Nat.xor_lt_two_pow (n := 16) h1 h2) h3, beq_iff_eq]
  show ((x25 a.data.toList ^^^ x25 b.data.toList ^^^ x25 c.data.toList : Nat) : Int) = ((x25 (List.zipWith (· ^^^ ·) (List.zipWith (· ^^^ ·) a.data.toList b.data.toList) c.data.toList) : Nat) : Int)
  rw [x25_xor3 a.data.toList b.data.toList c.data.toList (by rw [Array.length_toList, Array.length_toList]; exact hb) (by rw [Array.length_toList, Array.length_toList]; exact hc)]
theorem three_cas (a b c : ByteArray) (hb : b.size = a.size) (hc : c.size = a.size) :
    (bits .xor .u32 (bits .xor .u32 (cas a.data.toList : Nat) (cas b.data.toList : Nat)) (cas c.data.toList : Nat) == ((cas (xor3 a b c) : Nat) : Int)) = true := by
  have h1 := cas_lt a.data.toList
  have h2 := cas_lt b.data.toList
  have h3 := cas_lt c.data.toList
  rw [u32_xor_nat _ _ h1 h2, u32_xor_nat _ _ (Nat.xor_lt_two_pow (n := 32) h1 h2) h3, beq_iff_eq]
  show ((cas a.data.toList ^^^ cas b.data.toList ^^^ cas c.data.toList : Nat) : Int) = ((cas (List.zipWith (· ^^^ ·) (List.zipWith (· ^^^ ·) a.data.toList b.data.toList) c.data.toList) : Nat) : Int)
  rw [cas_xor3 a.data.toList b.data.toList c.data.toList (by rw [Array.length_toList, Array.length_toList]; exact hb) (by rw [Array.length_toList, Array.length_toList]; exact hc)]

set_option maxHeartbeats 400000 in
theorem three_none (a b c : ByteArray) (w : World) (h : 300 < a.size ∨ b.size ≠ a.size ∨ c.size ≠ a.size) :
    Calls Try.prog 4 #[.string a, .string b, .string c] w fun e w' => e = .returned (.bool true) ∧ Below w.heap.size w w' := by
  by_cases h1 : 300 < a.size
  · clear h
    go_enter Try.func4, Try.ntmps4
    go_wp2_with fail
    refine (awake_any _).mono ?_
    rintro e w1 ⟨rfl, hb1⟩
    go_wp2_with fail
    refine (awake_any _).mono ?_
    rintro e w2 ⟨rfl, hb2⟩
    go_wp2_with fail
    go_ret
    exact ⟨rfl, chain hb1 hb2⟩
  · by_cases h2 : b.size = a.size
    · have h3 : ((c.size : Int) != (a.size : Int)) = true := by
        rw [bne_iff_ne]
        omega
      have h4 : ((b.size : Int) != (a.size : Int)) = false := by
        rw [h2]
        simp
      clear h h2
      go_enter Try.func4, Try.ntmps4
      go_wp2_with fail
      refine (awake_any _).mono ?_
      rintro e w1 ⟨rfl, hb1⟩
      go_wp2_with fail
      refine (awake_any _).mono ?_
      rintro e w2 ⟨rfl, hb2⟩
      go_wp2_with fail
      go_ret
      exact ⟨rfl, chain hb1 hb2⟩
    · have h4 : ((b.size : Int) != (a.size : Int)) = true := by
        rw [bne_iff_ne]
        omega
      clear h h2
      go_enter Try.func4, Try.ntmps4
      go_wp2_with fail
      refine (awake_any _).mono ?_
      rintro e w1 ⟨rfl, hb1⟩
      go_wp2_with fail
      refine (awake_any _).mono ?_
      rintro e w2 ⟨rfl, hb2⟩
      go_wp2_with fail
      go_ret
      exact ⟨rfl, chain hb1 hb2⟩

set_option maxHeartbeats 400000 in
theorem three_some (a b c : ByteArray) (w : World) (h1 : a.size ≤ 300) (hb : b.size = a.size) (hc : c.size = a.size) :
    Calls Try.prog 4 #[.string a, .string b, .string c] w fun e w' => e = .returned (.bool true) ∧ Below w.heap.size w w' := by
  have h3 : ((c.size : Int) != (a.size : Int)) = false := by rw [hc]; simp
  have h4 : ((b.size : Int) != (a.size : Int)) = false := by rw [hb]; simp
  have HBs := Lib.hid hb; clear hb
  have HCs := Lib.hid hc; clear hc
  go_enter Try.func4, Try.ntmps4
  go_wp2_with fail
  refine (awake_any _).mono ?_
  rintro e w1 ⟨rfl, hb1⟩
  obtain ⟨W1, hmk, hcell, hfr, hbel, hsz⟩ := make_bytes w1 a.size (by omega)
  have HC := Lib.hid hcell; clear hcell
  have HF := Lib.hid hfr; clear hfr
  go_wp2_with fail
  clear hmk
  go_loopw [8] (fun i wr => ∃ k : Nat, k ≤ a.size ∧ i = .int .i64 k ∧ RowF wr w1.heap.size a.size (fun j => if j < k then a.data.getD j 0 ^^^ b.data.getD j 0 ^^^ c.data.getD j 0 else 0) ∧ Below w1.heap.size w1 wr) (fun i _ => a.size - (intOf i).toNat)
  case atStart => exact ⟨0, Nat.zero_le _, rfl, ⟨fun j h => by simpa using HC.out j h, HF.out⟩, hbel⟩
  case round =>
    obtain ⟨k, hk, rfl, hrow, hbw⟩ := hrel
    by_cases hlt : k < a.size
    · have hc0 : wr.cell? ⟨w1.heap.size, k, none⟩ = some (.int .u8 0) := by simpa using hrow.1 k hlt
      have hf0 := hrow.2 k hlt
      have hbk : k < b.size := by have := HBs.out; omega
      have hck : k < c.size := by have := HCs.out; omega
      have HR := Lib.hid hrow; clear hrow
      go_wp2
      go_region
      go_wp2
      go_roundw
      case rel => exact ⟨k + 1, by omega, by go_num, row_step HR.out hlt (xor88 _ _ _ _ _ _ (at_byte a k hlt) (at_byte b k hbk) (at_byte c k hck)), (hbw.setCell (p := ⟨w1.heap.size, k, none⟩) (Nat.le_refl _) _).drew⟩
      case measure => simp [intOf]; omega
    · have hk9 : k = a.size := by omega
      subst hk9
      have hback := three_back wr w1.heap.size a b c HBs.out HCs.out hrow
      have hl := Lib.hid (three_len a b c HBs.out HCs.out)
      clear hrow
      have HBW := Lib.hid (chain hb1 hbw); clear hbw hb1 hbel
      go_wp2_with fail
      clear hback
      refine (X25_any _ _ (by unfold maxLen; omega)).mono ?_
      rintro e w3 ⟨rfl, hb3⟩
      go_wp2_with fail
      refine (X25_any _ _ (by have := HBs.out; unfold maxLen; omega)).mono ?_
      rintro e w4 ⟨rfl, hb4⟩
      go_wp2_with fail
      refine (X25_any _ _ (by have := HCs.out; unfold maxLen; omega)).mono ?_
      rintro e w5 ⟨rfl, hb5⟩
      go_wp2_with fail
      refine (X25_any _ _ (by have := hl.out; unfold maxLen; omega)).mono ?_
      rintro e w6 ⟨rfl, hb6⟩
      have HB6 := Lib.hid (chain (chain (chain (chain HBW.out hb3) hb4) hb5) hb6)
      clear hb3 hb4 hb5 hb6
      have hq1 := three_x25 a b c HBs.out HCs.out
      go_wp2_with fail
      clear hq1
      refine (Cas_any _ _ (by unfold maxLen; omega)).mono ?_
      rintro e w3 ⟨rfl, hb3⟩
      go_wp2_with fail
      refine (Cas_any _ _ (by have := HBs.out; unfold maxLen; omega)).mono ?_
      rintro e w4 ⟨rfl, hb4⟩
      go_wp2_with fail
      refine (Cas_any _ _ (by have := HCs.out; unfold maxLen; omega)).mono ?_
      rintro e w5 ⟨rfl, hb5⟩
      go_wp2_with fail
      refine (Cas_any _ _ (by have := hl.out; unfold maxLen; omega)).mono ?_
      rintro e w6 ⟨rfl, hb6⟩
      have hq1 := three_cas a b c HBs.out HCs.out
      go_wp2_with fail
      go_ret
      exact ⟨rfl, chain (chain (chain (chain HB6.out hb3) hb4) hb5) hb6⟩
end Go.Proofs.Ytodgdkomiceamaa
