/-
  CrcSums: the contracts of both byte forms and of Size, and the law's walk.
-/
import Derived.Test.YtodgdkomiceamaaSums
namespace Go.Proofs.Ytodgdkomiceamaa
open Go.RowKit
theorem conv_list (w : World) (l : List UInt8) : (convert 24 9 (.slice (some ⟨w.heap.size, 0, none⟩) l.length l.length)).run Try.prog (w.alloc (.cells (l.map fun b => Value.int .u8 (b.toNat : Int)).toArray 5)) = .ok (.string ⟨l.toArray⟩) (w.alloc (.cells (l.map fun b => Value.int .u8 (b.toNat : Int)).toArray 5)) := by
  refine back_of _ _ _ l ?_
  intro i h
  rw [World.cell?_alloc_mark w _ 5 (0, 0) i]
  simp [h]
theorem of_nat8 (x : Int) (h : 0 ≤ x ∧ x < 256) : ((UInt8.ofNat x.toNat).toNat : Int) = x := by
  rw [UInt8.toNat_ofNat_of_lt' (show x.toNat < 256 by omega)]
  omega
theorem conv2 (w : World) (x y : Int) (hx : 0 ≤ x ∧ x < 256) (hy : 0 ≤ y ∧ y < 256) :
    (convert 24 9 (.slice (some ⟨w.heap.size, 0, none⟩) 2 2)).run Try.prog (w.alloc (.cells #[.int .u8 x, .int .u8 y] 5)) = .ok (.string ⟨#[UInt8.ofNat x.toNat, UInt8.ofNat y.toNat]⟩) (w.alloc (.cells #[.int .u8 x, .int .u8 y] 5)) := by
  have h := conv_list w [UInt8.ofNat x.toNat, UInt8.ofNat y.toNat]
  simp only [List.map_cons, List.map_nil, of_nat8 x hx, of_nat8 y hy] at h
  exact h
theorem conv4 (w : World) (x y z u : Int) (hx : 0 ≤ x ∧ x < 256) (hy : 0 ≤ y ∧ y < 256) (hz : 0 ≤ z ∧ z < 256) (hu : 0 ≤ u ∧ u < 256) :
    (convert 24 9 (.slice (some ⟨w.heap.size, 0, none⟩) 4 4)).run Try.prog (w.alloc (.cells #[.int .u8 x, .int .u8 y, .int .u8 z, .int .u8 u] 5)) = .ok (.string ⟨#[UInt8.ofNat x.toNat, UInt8.ofNat y.toNat, UInt8.ofNat z.toNat, UInt8.ofNat u.toNat]⟩) (w.alloc (.cells #[.int .u8 x, .int .u8 y, .int .u8 z, .int .u8 u] 5)) := by
  have h := conv_list w [UInt8.ofNat x.toNat, UInt8.ofNat y.toNat, UInt8.ofNat z.toNat, UInt8.ofNat u.toNat]
  simp only [List.map_cons, List.map_nil, of_nat8 x hx, of_nat8 y hy, of_nat8 z hz, of_nat8 u hu] at h
  exact h
/-- The bytes of a sum of two, and of four. -/
def by2 (n : Nat) : ByteArray := ⟨#[UInt8.ofNat (n / 256), UInt8.ofNat (n % 256)]⟩
def by4 (n : Nat) : ByteArray := ⟨#[UInt8.ofNat (n / 16777216), UInt8.ofNat (n / 65536 % 256), UInt8.ofNat (n / 256 % 256), UInt8.ofNat (n % 256)]⟩

theorem sum1 (b : ByteArray) (w : World) (hb : b.size ≤ maxLen) :
    Calls Try.prog 9 #[.int .i64 1, .string b] w fun e w' => e = .returned (.string (by2 (x25 b.data.toList))) ∧ Below w.heap.size w w' := by
  have hl := x25_lt b.data.toList
  go_enter Try.func9, Try.ntmps9
  go_wp2_with fail
  refine (X25_any b _ hb).mono ?_
  rintro e w1 ⟨rfl, hb1⟩
  generalize hn : x25 b.data.toList = n at *
  have HN := Lib.hid hn; clear hn
  have hcv := conv2 w1 ((n : Int) / 256) ((n : Int) % 256) (by omega) (by omega)
  go_wp2_with fail
  go_ret
  exact ⟨by rw [HN.out]; rfl, hb1.alloc hb1.size _⟩

theorem sum2 (b : ByteArray) (w : World) (hb : b.size ≤ maxLen) :
    Calls Try.prog 9 #[.int .i64 2, .string b] w fun e w' => e = .returned (.string (by4 (cas b.data.toList))) ∧ Below w.heap.size w w' := by
  have hl := cas_lt b.data.toList
  go_enter Try.func9, Try.ntmps9
  go_wp2_with fail
  refine (Cas_any b _ hb).mono ?_
  rintro e w1 ⟨rfl, hb1⟩
  generalize hn : cas b.data.toList = n at *
  have HN := Lib.hid hn; clear hn
  have hcv := conv4 w1 ((n : Int) / 16777216) ((n : Int) / 65536 % 256) ((n : Int) / 256 % 256) ((n : Int) % 256) (by omega) (by omega) (by omega) (by omega)
  go_wp2_with fail
  go_ret
  exact ⟨by rw [HN.out]; rfl, hb1.alloc hb1.size _⟩

theorem sum0 (k : Int) (b : ByteArray) (w : World) (h1 : k ≠ 1) (h2 : k ≠ 2) :
    Calls Try.prog 9 #[.int .i64 k, .string b] w fun e w' => e = .returned (.string ⟨#[]⟩) ∧ w = w' := by
  have h1 : (k == 1) = false := by rw [beq_eq_false_iff_ne]; exact h1
  have h2 : (k == 2) = false := by rw [beq_eq_false_iff_ne]; exact h2
  go_enter Try.func9, Try.ntmps9
  go_wp2_with fail
  go_ret
  exact ⟨rfl, rfl⟩

theorem Sum16 (b : ByteArray) (w : World) (hb : b.size ≤ maxLen) :
    Calls Try.prog 10 #[.int .i64 16, .string b] w fun e w' => e = .returned (.int .u64 (x25 b.data.toList : Nat)) ∧ Below w.heap.size w w' := by
  have h := Sum_of 16 4129 b w (by decide) (by decide) (by decide) hb div16
  rw [rsum16] at h
  exact h
theorem Sum32 (b : ByteArray) (w : World) (hb : b.size ≤ maxLen) :
    Calls Try.prog 10 #[.int .i64 32, .string b] w fun e w' => e = .returned (.int .u64 (cas b.data.toList : Nat)) ∧ Below w.heap.size w w' := by
  have h := Sum_of 32 517762881 b w (by decide) (by decide) (by decide) hb div32
  rw [rsum32] at h
  exact h

theorem bytes1 (b : ByteArray) (w : World) (hb : b.size ≤ maxLen) :
    Calls Try.prog 11 #[.int .i64 1, .string b] w fun e w' => e = .returned (.string (by2 (x25 b.data.toList))) ∧ Below w.heap.size w w' := by
  have hl := x25_lt b.data.toList
  go_enter Try.func11, Try.ntmps11
  go_wp2_with fail
  refine (Sum16 b _ hb).mono ?_
  rintro e w1 ⟨rfl, hb1⟩
  generalize hn : x25 b.data.toList = n at *
  have HN := Lib.hid hn; clear hn
  have hcv := conv2 w1 ((n : Int) / 256) ((n : Int) % 256) (by omega) (by omega)
  go_wp2_with fail
  go_ret
  exact ⟨by rw [HN.out]; rfl, hb1.alloc hb1.size _⟩

theorem bytes2 (b : ByteArray) (w : World) (hb : b.size ≤ maxLen) :
    Calls Try.prog 11 #[.int .i64 2, .string b] w fun e w' => e = .returned (.string (by4 (cas b.data.toList))) ∧ Below w.heap.size w w' := by
  have hl := cas_lt b.data.toList
  go_enter Try.func11, Try.ntmps11
  go_wp2_with fail
  refine (Sum32 b _ hb).mono ?_
  rintro e w1 ⟨rfl, hb1⟩
  generalize hn : cas b.data.toList = n at *
  have HN := Lib.hid hn; clear hn
  have hcv := conv4 w1 ((n : Int) / 16777216) ((n : Int) / 65536 % 256) ((n : Int) / 256 % 256) ((n : Int) % 256) (by omega) (by omega) (by omega) (by omega)
  go_wp2_with fail
  go_ret
  exact ⟨by rw [HN.out]; rfl, hb1.alloc hb1.size _⟩

theorem bytes0 (k : Int) (b : ByteArray) (w : World) (h1 : k ≠ 1) (h2 : k ≠ 2) :
    Calls Try.prog 11 #[.int .i64 k, .string b] w fun e w' => e = .returned (.string ⟨#[]⟩) ∧ w = w' := by
  have h1 : (k == 1) = false := by rw [beq_eq_false_iff_ne]; exact h1
  have h2 : (k == 2) = false := by rw [beq_eq_false_iff_ne]; exact h2
  go_enter Try.func11, Try.ntmps11
  go_wp2_with fail
  go_ret
  exact ⟨rfl, rfl⟩

theorem size_in (k : Int) (w : World) (h0 : 0 ≤ k) (h1 : k ≤ 2) : Calls Try.prog 12 #[.int .i64 k] w fun e w' => e = .returned (.int .i64 (2 * k)) ∧ w = w' := by
  go_enter Try.func12, Try.ntmps12
  go_wp2_with fail
  go_ret
  exact ⟨rfl, rfl⟩
theorem size_out (k : Int) (w : World) (h : k < 0 ∨ 2 < k) : Calls Try.prog 12 #[.int .i64 k] w fun e w' => e = .returned (.int .i64 (-1)) ∧ w = w' := by
  by_cases h0 : k < 0
  · clear h
    go_enter Try.func12, Try.ntmps12
    go_wp2_with fail
    go_ret
    exact ⟨rfl, rfl⟩
  · have h2 : 2 < k := by omega
    clear h
    go_enter Try.func12, Try.ntmps12
    go_wp2_with fail
    go_ret
    exact ⟨rfl, rfl⟩

set_option maxHeartbeats 400000 in
theorem sums_none (b : ByteArray) (k : Int) (w : World) (h1 : 1000 < b.size) :
    Calls Try.prog 5 #[.string b, .int .i64 k] w fun e w' => e = .returned (.bool true) ∧ Below w.heap.size w w' := by
  go_enter Try.func5, Try.ntmps5
  go_wp2_with fail
  refine (awake_any _).mono ?_
  rintro e w1 ⟨rfl, hb1⟩
  go_wp2_with fail
  refine (awake_any _).mono ?_
  rintro e w2 ⟨rfl, hb2⟩
  go_wp2_with fail
  go_ret
  exact ⟨rfl, chain hb1 hb2⟩

set_option maxHeartbeats 400000 in
theorem sums_in (b s : ByteArray) (k : Int) (w : World) (h1 : b.size ≤ 1000) (h0 : 0 ≤ k) (h2 : k ≤ 2) (hs : Hid ((s.size : Int) = 2 * k))
    (hS : ∀ w : World, Calls Try.prog 9 #[.int .i64 k, .string b] w fun e w' => e = .returned (.string s) ∧ Below w.heap.size w w')
    (hB : ∀ w : World, Calls Try.prog 11 #[.int .i64 k, .string b] w fun e w' => e = .returned (.string s) ∧ Below w.heap.size w w') :
    Calls Try.prog 5 #[.string b, .int .i64 k] w fun e w' => e = .returned (.bool true) ∧ Below w.heap.size w w' := by
  have HS := Lib.hid hS; clear hS
  have HB := Lib.hid hB; clear hB
  have hm : b.size ≤ maxLen := by unfold maxLen; omega
  have HM := Lib.hid hm; clear hm
  have hl1 := x25_lt b.data.toList
  have hl2 := cas_lt b.data.toList
  go_enter Try.func5, Try.ntmps5
  go_wp2_with fail
  refine (awake_any _).mono ?_
  rintro e w1 ⟨rfl, hb1⟩
  go_wp2_with fail
  refine (HS.out _).mono ?_
  rintro e w2 ⟨rfl, hb2⟩
  go_wp2_with fail
  refine (X25_any _ _ HM.out).mono ?_
  rintro e w3 ⟨rfl, hb3⟩
  go_wp2_with fail
  refine (Sum16 _ _ HM.out).mono ?_
  rintro e w4 ⟨rfl, hb4⟩
  go_wp2_with fail
  refine (Cas_any _ _ HM.out).mono ?_
  rintro e w5 ⟨rfl, hb5⟩
  go_wp2_with fail
  refine (Sum32 _ _ HM.out).mono ?_
  rintro e w6 ⟨rfl, hb6⟩
  go_wp2_with fail
  refine (HB.out _).mono ?_
  rintro e w7 ⟨rfl, hb7⟩
  go_wp2_with fail
  refine (size_in _ _ h0 h2).mono ?_
  rintro e w8 ⟨rfl, rfl⟩
  have hs2 : (s.size : Int) = 2 * k := hs
  go_wp2_with fail
  go_ret
  exact ⟨rfl, chain (chain (chain (chain (chain (chain hb1 hb2) hb3) hb4) hb5) hb6) hb7⟩
set_option maxHeartbeats 400000 in
theorem sums_low (b : ByteArray) (k : Int) (w : World) (h1 : b.size ≤ 1000) (h0 : k < 0)
    (hS : ∀ w : World, Calls Try.prog 9 #[.int .i64 k, .string b] w fun e w' => e = .returned (.string ⟨#[]⟩) ∧ Below w.heap.size w w')
    (hB : ∀ w : World, Calls Try.prog 11 #[.int .i64 k, .string b] w fun e w' => e = .returned (.string ⟨#[]⟩) ∧ Below w.heap.size w w') :
    Calls Try.prog 5 #[.string b, .int .i64 k] w fun e w' => e = .returned (.bool true) ∧ Below w.heap.size w w' := by
  have HS := Lib.hid hS; clear hS
  have HB := Lib.hid hB; clear hB
  have hm : b.size ≤ maxLen := by unfold maxLen; omega
  have HM := Lib.hid hm; clear hm
  have hl1 := x25_lt b.data.toList
  have hl2 := cas_lt b.data.toList
  go_enter Try.func5, Try.ntmps5
  go_wp2_with fail
  refine (awake_any _).mono ?_
  rintro e w1 ⟨rfl, hb1⟩
  go_wp2_with fail
  refine (HS.out _).mono ?_
  rintro e w2 ⟨rfl, hb2⟩
  go_wp2_with fail
  refine (X25_any _ _ HM.out).mono ?_
  rintro e w3 ⟨rfl, hb3⟩
  go_wp2_with fail
  refine (Sum16 _ _ HM.out).mono ?_
  rintro e w4 ⟨rfl, hb4⟩
  go_wp2_with fail
  refine (Cas_any _ _ HM.out).mono ?_
  rintro e w5 ⟨rfl, hb5⟩
  go_wp2_with fail
  refine (Sum32 _ _ HM.out).mono ?_
  rintro e w6 ⟨rfl, hb6⟩
  go_wp2_with fail
  refine (HB.out _).mono ?_
  rintro e w7 ⟨rfl, hb7⟩
  go_wp2_with fail
  refine (size_out _ _ (by omega)).mono ?_
  rintro e w8 ⟨rfl, rfl⟩
  go_wp2_with fail
  go_ret
  exact ⟨rfl, chain (chain (chain (chain (chain (chain hb1 hb2) hb3) hb4) hb5) hb6) hb7⟩
set_option maxHeartbeats 400000 in
theorem sums_high (b : ByteArray) (k : Int) (w : World) (h1 : b.size ≤ 1000) (h0 : 2 < k)
    (hS : ∀ w : World, Calls Try.prog 9 #[.int .i64 k, .string b] w fun e w' => e = .returned (.string ⟨#[]⟩) ∧ Below w.heap.size w w')
    (hB : ∀ w : World, Calls Try.prog 11 #[.int .i64 k, .string b] w fun e w' => e = .returned (.string ⟨#[]⟩) ∧ Below w.heap.size w w') :
    Calls Try.prog 5 #[.string b, .int .i64 k] w fun e w' => e = .returned (.bool true) ∧ Below w.heap.size w w' := by
  have HS := Lib.hid hS; clear hS
  have HB := Lib.hid hB; clear hB
  have hm : b.size ≤ maxLen := by unfold maxLen; omega
  have HM := Lib.hid hm; clear hm
  have hl1 := x25_lt b.data.toList
  have hl2 := cas_lt b.data.toList
  go_enter Try.func5, Try.ntmps5
  go_wp2_with fail
  refine (awake_any _).mono ?_
  rintro e w1 ⟨rfl, hb1⟩
  go_wp2_with fail
  refine (HS.out _).mono ?_
  rintro e w2 ⟨rfl, hb2⟩
  go_wp2_with fail
  refine (X25_any _ _ HM.out).mono ?_
  rintro e w3 ⟨rfl, hb3⟩
  go_wp2_with fail
  refine (Sum16 _ _ HM.out).mono ?_
  rintro e w4 ⟨rfl, hb4⟩
  go_wp2_with fail
  refine (Cas_any _ _ HM.out).mono ?_
  rintro e w5 ⟨rfl, hb5⟩
  go_wp2_with fail
  refine (Sum32 _ _ HM.out).mono ?_
  rintro e w6 ⟨rfl, hb6⟩
  go_wp2_with fail
  refine (HB.out _).mono ?_
  rintro e w7 ⟨rfl, hb7⟩
  go_wp2_with fail
  refine (size_out _ _ (by omega)).mono ?_
  rintro e w8 ⟨rfl, rfl⟩
  go_wp2_with fail
  go_ret
  exact ⟨rfl, chain (chain (chain (chain (chain (chain hb1 hb2) hb3) hb4) hb5) hb6) hb7⟩
end Go.Proofs.Ytodgdkomiceamaa
