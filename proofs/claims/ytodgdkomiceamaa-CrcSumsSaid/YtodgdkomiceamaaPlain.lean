/-
  The two checksums as plain functions on numbers and lists of bytes: what the program's divide computes.
-/
namespace Go.Proofs.Ytodgdkomiceamaa
/-- One bit of the division. -/
def stp (by_ s : Nat) : Nat := if s % 2 = 1 then (s / 2) ^^^ by_ else s / 2
/-- So many bits. -/
def rnd (by_ : Nat) : Nat → Nat → Nat
  | 0, s => s
  | k + 1, s => stp by_ (rnd by_ k s)
/-- One byte. -/
def byt (by_ s : Nat) (c : UInt8) : Nat := rnd by_ 8 (s ^^^ c.toNat)
/-- A list of bytes. -/
def dvd (by_ s : Nat) (l : List UInt8) : Nat := l.foldl (byt by_) s

theorem stp_lt {by_ s j : Nat} (hb : by_ < 2 ^ j) (hs : s < 2 ^ j) : stp by_ s < 2 ^ j := by
  unfold stp
  split
  · exact Nat.xor_lt_two_pow (by omega) hb
  · omega
theorem rnd_lt {by_ j : Nat} (hb : by_ < 2 ^ j) : ∀ (k s : Nat), s < 2 ^ j → rnd by_ k s < 2 ^ j
  | 0, _, h => h
  | k + 1, s, h => stp_lt hb (rnd_lt hb k s h)
theorem byt_lt {by_ j : Nat} (hb : by_ < 2 ^ j) (h8 : 8 ≤ j) (s : Nat) (c : UInt8) (hs : s < 2 ^ j) : byt by_ s c < 2 ^ j := by
  refine rnd_lt hb 8 _ (Nat.xor_lt_two_pow hs ?_)
  have h1 := c.toNat_lt
  have h2 : (2 : Nat) ^ 8 ≤ 2 ^ j := Nat.pow_le_pow_right (by omega) h8
  omega
theorem dvd_lt {by_ j : Nat} (hb : by_ < 2 ^ j) (h8 : 8 ≤ j) : ∀ (l : List UInt8) (s : Nat), s < 2 ^ j → dvd by_ s l < 2 ^ j
  | [], _, h => h
  | c :: l, s, h => dvd_lt hb h8 l _ (byt_lt hb h8 s c h)
theorem dvd_take (by_ s : Nat) (b : ByteArray) (k : Nat) (h : k < b.size) : dvd by_ s (b.data.toList.take (k + 1)) = byt by_ (dvd by_ s (b.data.toList.take k)) b[k] := by
  rw [List.take_succ_eq_append_getElem (by simpa using h)]
  unfold dvd
  rw [List.foldl_append]
  rfl
/-- The short sum. -/
def x25 (l : List UInt8) : Nat := 65535 - dvd 33800 65535 l
/-- The long sum. -/
def cas (l : List UInt8) : Nat := 4294967295 - dvd 2197175160 4294967295 l
theorem x25_lt (l : List UInt8) : x25 l < 65536 := by unfold x25; omega
theorem cas_lt (l : List UInt8) : cas l < 4294967296 := by unfold cas; omega
theorem d16_lt (l : List UInt8) : dvd 33800 65535 l < 65536 := dvd_lt (by_ := 33800) (j := 16) (by decide) (by decide) l 65535 (by decide)
theorem d32_lt (l : List UInt8) : dvd 2197175160 4294967295 l < 4294967296 := dvd_lt (by_ := 2197175160) (j := 32) (by decide) (by decide) l 4294967295 (by decide)
/-- The nine digits. -/
def nine : List UInt8 := [49, 50, 51, 52, 53, 54, 55, 56, 57]
theorem x25_nine : x25 nine = 36974 := by decide +kernel
theorem cas_nine : cas nine = 3808858755 := by decide +kernel
theorem ones_xor (w n : Nat) (h : n < 2 ^ w) : (2 ^ w - 1) ^^^ n = 2 ^ w - 1 - n := by
  have h1 : (BitVec.ofNat w n ^^^ BitVec.allOnes w).toNat = (~~~ BitVec.ofNat w n).toNat := by rw [BitVec.xor_allOnes]
  rw [BitVec.toNat_xor, BitVec.toNat_not, BitVec.toNat_allOnes, BitVec.toNat_ofNat, Nat.mod_eq_of_lt h, Nat.xor_comm] at h1
  exact h1
end Go.Proofs.Ytodgdkomiceamaa
