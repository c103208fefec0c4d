/-
  CrcBits: the walk.
-/
import Derived.Test.YtodgdkomiceamaaWalks
namespace Go.Proofs.Ytodgdkomiceamaa
open Go.RowKit

set_option maxHeartbeats 400000 in
theorem bits_none (a0 : ByteArray) (a1 a2 : Int) (w : World) (h : 500 < a0.size ∨ a0.size < 2 ∨ a2 = 0) :
    Calls Try.prog 3 #[.string a0, .int .u16 a1, .int .u16 a2] w fun e w' => e = .returned (.bool true) ∧ Below w.heap.size w w' := by
  by_cases h1 : 500 < a0.size
  · clear h
    go_enter Try.func3, Try.ntmps3
    go_wp2_with fail
    refine (awake_any _).mono ?_
    rintro e w1 ⟨rfl, hb1⟩
    go_wp2_with fail
    refine (awake_any _).mono ?_
    rintro e w2 ⟨rfl, hb2⟩
    go_wp2_with fail
    go_ret
    exact ⟨rfl, chain hb1 hb2⟩
  · by_cases h2 : a0.size < 2
    · clear h
      go_enter Try.func3, Try.ntmps3
      go_wp2_with fail
      refine (awake_any _).mono ?_
      rintro e w1 ⟨rfl, hb1⟩
      go_wp2_with fail
      refine (awake_any _).mono ?_
      rintro e w2 ⟨rfl, hb2⟩
      go_wp2_with fail
      go_ret
      exact ⟨rfl, chain hb1 hb2⟩
    · have h3 : a2 = 0 := by
        rcases h with h | h | h
        · exact absurd h h1
        · exact absurd h h2
        · exact h
      clear h
      subst h3
      go_enter Try.func3, Try.ntmps3
      go_wp2_with fail
      refine (awake_any _).mono ?_
      rintro e w1 ⟨rfl, hb1⟩
      go_wp2_with fail
      refine (awake_any _).mono ?_
      rintro e w2 ⟨rfl, hb2⟩
      go_wp2_with fail
      go_ret
      exact ⟨rfl, chain hb1 hb2⟩

theorem set1 (W : World) (B : Nat) (l : List UInt8) (K : Nat) (x : UInt8) (hK : K < l.length) (hc : ∀ i (h : i < l.length), W.cell? ⟨B, i, none⟩ = some (.int .u8 (l[i].toNat : Int))) :
    ∀ i (h : i < (l.set K x).length), (W.setCell ⟨B, K, none⟩ (.int .u8 (x.toNat : Int))).cell? ⟨B, i, none⟩ = some (.int .u8 ((l.set K x)[i].toNat : Int)) := by
  intro i h
  by_cases e : K = i
  · subst e
    rw [World.cell?_setCell_same _ _ _ (hc K hK)]
    simp
  · have hne : (⟨B, K, none⟩ : Addr) ≠ ⟨B, i, none⟩ := fun e2 => e (congrArg Addr.off e2)
    rw [World.cell?_setCell_other (h := hne), hc i (by simpa using h)]
    simp [e]

/-- What the two bytes become. -/
def turned (l : List UInt8) (K m : Nat) : List UInt8 := (l.set K (l.getD K 0 ^^^ UInt8.ofNat (m % 256))).set (K + 1) (l.getD (K + 1) 0 ^^^ UInt8.ofNat (m / 256))

theorem xor8 (c : UInt8) (m : Nat) (h : m < 256) : bits .xor .u8 (c.toNat : Int) (m : Int) = ((c ^^^ UInt8.ofNat m).toNat : Int) := by
  have := u8_xor_nat c.toNat m c.toNat_lt h
  rw [this, UInt8.toNat_xor, UInt8.toNat_ofNat_of_lt' h]

theorem turned_len (l : List UInt8) (K m : Nat) : (turned l K m).length = l.length := by rw [turned, List.length_set, List.length_set]

theorem turned_size (b : ByteArray) (K m : Nat) : (⟨(turned b.data.toList K m).toArray⟩ : ByteArray).size = b.size := by
  show (turned b.data.toList K m).toArray.size = b.size
  rw [List.size_toArray, turned_len]
  exact Array.length_toList

theorem back_of (W : World) (B cap : Nat) (l : List UInt8) (hc : ∀ i (h : i < l.length), W.cell? ⟨B, i, none⟩ = some (.int .u8 (l[i].toNat : Int))) :
    (convert 24 9 (.slice (some ⟨B, 0, none⟩) l.length cap)).run Try.prog W = .ok (.string ⟨l.toArray⟩) W := by
  refine run_convert_bytes_back W 24 9 5 ⟨B, 0, none⟩ cap l Try.underlying24 Try.underlying5 Try.underlying9 ?_
  intro j hj
  have e : (⟨B, 0, none⟩ : Addr).add j = ⟨B, j, none⟩ := by unfold Addr.add; split <;> simp_all
  rw [e, hc j hj]

theorem back (w1 W : World) (b : ByteArray) (cap K m : Nat) (hK : K + 1 < b.size) (hm : m < 65536) (hc : ∀ i (h : i < b.size), W.cell? ⟨w1.heap.size, i, none⟩ = some (.int .u8 (b[i].toNat : Int))) :
    (convert 24 9 (.slice (some ⟨w1.heap.size, 0, none⟩) b.size cap)).run Try.prog ((W.setCell ⟨w1.heap.size, K, none⟩ (.int .u8 (bits .xor .u8 (b[K].toNat : Int) ((m : Int) % 256)))).setCell ⟨w1.heap.size, K + 1, none⟩ (.int .u8 (bits .xor .u8 (b[K + 1].toNat : Int) ((m : Int) / 256))))
      = .ok (.string ⟨(turned b.data.toList K m).toArray⟩) ((W.setCell ⟨w1.heap.size, K, none⟩ (.int .u8 (bits .xor .u8 (b[K].toNat : Int) ((m : Int) % 256)))).setCell ⟨w1.heap.size, K + 1, none⟩ (.int .u8 (bits .xor .u8 (b[K + 1].toNat : Int) ((m : Int) / 256)))) := by
  have hsz : b.data.toList.length = b.size := Array.length_toList
  have e0 : b.data.toList.getD K 0 = b[K] := by
    rw [List.getD_eq_getElem?_getD, List.getElem?_eq_getElem (by omega)]
    rfl
  have e1 : b.data.toList.getD (K + 1) 0 = b[K + 1] := by
    rw [List.getD_eq_getElem?_getD, List.getElem?_eq_getElem (by omega)]
    rfl
  have x0 : bits .xor .u8 (b[K].toNat : Int) ((m : Int) % 256) = ((b[K] ^^^ UInt8.ofNat (m % 256)).toNat : Int) := xor8 b[K] (m % 256) (by omega)
  have x1 : bits .xor .u8 (b[K + 1].toNat : Int) ((m : Int) / 256) = ((b[K + 1] ^^^ UInt8.ofNat (m / 256)).toNat : Int) := xor8 b[K + 1] (m / 256) (by omega)
  rw [x0, x1]
  have s1 := set1 W w1.heap.size b.data.toList K (b[K] ^^^ UInt8.ofNat (m % 256)) (by omega) (fun i h => hc i (by omega))
  have s2 := set1 _ w1.heap.size _ (K + 1) (b[K + 1] ^^^ UInt8.ofNat (m / 256)) (by rw [List.length_set]; omega) s1
  have hl : (turned b.data.toList K m).length = b.size := by rw [turned, List.length_set, List.length_set]; exact hsz
  have ht : turned b.data.toList K m = (b.data.toList.set K (b[K] ^^^ UInt8.ofNat (m % 256))).set (K + 1) (b[K + 1] ^^^ UInt8.ofNat (m / 256)) := by
    unfold turned
    rw [e0, e1]
  rw [← ht] at s2
  have hgo := back_of _ w1.heap.size cap (turned b.data.toList K m) s2
  rw [hl] at hgo
  exact hgo

set_option maxHeartbeats 400000 in
theorem bits_some (b : ByteArray) (n m K : Nat) (w : World) (h1 : 2 ≤ b.size) (h2 : b.size ≤ 500) (hn : n < 65536) (hm : m < 65536) (hm0 : 0 < m) (hK : K = n % (b.size - 1))
    (hx : (((x25 (turned b.data.toList K m) : Nat) : Int) != ((x25 b.data.toList : Nat) : Int)) = true) (hy : (((cas (turned b.data.toList K m) : Nat) : Int) != ((cas b.data.toList : Nat) : Int)) = true) :
    Calls Try.prog 3 #[.string b, .int .u16 n, .int .u16 m] w fun e w' => e = .returned (.bool true) ∧ Below w.heap.size w w' := by
  have hk : (n : Int) % ((b.size : Int) - 1) = (K : Int) := by
    rw [hK, show ((b.size : Int) - 1) = ((b.size - 1 : Nat) : Int) from by omega]
    rfl
  have hKl : K + 1 < b.size := by
    have := Nat.mod_lt n (show b.size - 1 > 0 by omega)
    omega
  have hne : ((m : Int) == 0) = false := by rw [beq_eq_false_iff_ne]; omega
  clear hK
  go_enter Try.func3, Try.ntmps3
  go_wp2_with fail
  refine (awake_any _).mono ?_
  rintro e w1 ⟨rfl, hb1⟩
  obtain ⟨W1, cap, hconv, hcell, hfr, hbel, hsz⟩ := conv_bytes w1 b
  have hc0 := hcell K (by omega)
  have hc1 := hcell (K + 1) hKl
  have hf0 := hfr K (by omega)
  have hf1 := hfr (K + 1) hKl
  have HC := Lib.hid hcell; clear hcell
  have HF := Lib.hid hfr; clear hfr
  have hback := back w1 W1 b cap K m hKl hm HC.out
  have hb2 : Below w.heap.size w ((W1.setCell ⟨w1.heap.size, K, none⟩ (.int .u8 (bits .xor .u8 (b[K].toNat : Int) ((m : Int) % 256)))).setCell ⟨w1.heap.size, K + 1, none⟩ (.int .u8 (bits .xor .u8 (b[K + 1].toNat : Int) ((m : Int) / 256)))) :=
    ((chain hb1 hbel).setCell (p := ⟨w1.heap.size, K, none⟩) hb1.size _).setCell (p := ⟨w1.heap.size, K + 1, none⟩) hb1.size _
  have HB := Lib.hid hb2; clear hb2
  go_wp2_with fail
  clear hback hconv hc0 hc1 hf0 hf1 hk
  refine (X25_any _ _ (by rw [turned_size]; unfold maxLen; omega)).mono ?_
  rintro e w3 ⟨rfl, hb3⟩
  go_wp2_with fail
  refine (X25_any _ _ (by unfold maxLen; omega)).mono ?_
  rintro e w4 ⟨rfl, hb4⟩
  go_wp2_with fail
  refine (Cas_any _ _ (by rw [turned_size]; unfold maxLen; omega)).mono ?_
  rintro e w5 ⟨rfl, hb5⟩
  go_wp2_with fail
  refine (Cas_any _ _ (by unfold maxLen; omega)).mono ?_
  rintro e w6 ⟨rfl, hb6⟩
  go_wp2_with fail
  go_ret
  exact ⟨rfl, chain (chain (chain (chain HB.out hb3) hb4) hb5) hb6⟩
end Go.Proofs.Ytodgdkomiceamaa
