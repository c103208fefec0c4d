/-
  The plain laws of the two checksums: the division is injective and linear.
-/
import Derived.Test.YtodgdkomiceamaaPlain
namespace Go.Proofs.Ytodgdkomiceamaa

theorem xor_mod2 (x y : Nat) : (x ^^^ y) % 2 = (x % 2 + y % 2) % 2 := by
  have := Nat.xor_mod_two_pow (a := x) (b := y) (n := 1)
  rw [show (2 : Nat) ^ 1 = 2 from rfl] at this
  rw [this]
  rcases Nat.mod_two_eq_zero_or_one x with hx | hx <;> rcases Nat.mod_two_eq_zero_or_one y with hy | hy <;> rw [hx, hy] <;> rfl
theorem xor_div2 (x y : Nat) : (x ^^^ y) / 2 = (x / 2) ^^^ (y / 2) := by
  have := Nat.xor_div_two_pow (a := x) (b := y) (n := 1)
  rw [show (2 : Nat) ^ 1 = 2 from rfl] at this
  exact this

theorem xor_eq0 {x y : Nat} (h : x ^^^ y = 0) : x = y := by
  have := congrArg (· ^^^ y) h
  simpa [Nat.xor_assoc] using this
theorem cancel (a b c d e : Nat) (h : a ^^^ b ^^^ c = a ^^^ (b ^^^ d) ^^^ (c ^^^ e)) : d ^^^ e = 0 := by
  have h2 : (a ^^^ b ^^^ c) ^^^ (a ^^^ (b ^^^ d) ^^^ (c ^^^ e)) = 0 := by rw [h, Nat.xor_self]
  rw [← h2]
  apply Nat.eq_of_testBit_eq
  intro i
  simp only [Nat.testBit_xor]
  generalize a.testBit i = A
  generalize b.testBit i = B
  generalize c.testBit i = C
  generalize d.testBit i = D
  generalize e.testBit i = E
  revert A B C D E
  decide

/-- One bit is linear. -/
theorem stp_xor (d x y : Nat) : stp d (x ^^^ y) = stp d x ^^^ stp d y := by
  unfold stp
  rw [xor_mod2, xor_div2]
  rcases Nat.mod_two_eq_zero_or_one x with hx | hx <;> rcases Nat.mod_two_eq_zero_or_one y with hy | hy <;> rw [hx, hy] <;> simp
  · ac_rfl
  · ac_rfl
  · rw [show x / 2 ^^^ d ^^^ (y / 2 ^^^ d) = (x / 2 ^^^ y / 2) ^^^ (d ^^^ d) from by ac_rfl, Nat.xor_self, Nat.xor_zero]
theorem rnd_xor (d : Nat) : ∀ (k x y : Nat), rnd d k (x ^^^ y) = rnd d k x ^^^ rnd d k y
  | 0, _, _ => rfl
  | k + 1, x, y => by
    show stp d _ = stp d _ ^^^ stp d _
    rw [rnd_xor d k x y, stp_xor]
theorem stp_zero (d : Nat) : stp d 0 = 0 := rfl
/-- What turns to nothing was nothing. -/
theorem stp_ker {d j x : Nat} (hd : 2 ^ j ≤ d) (hx : x < 2 ^ (j + 1)) (h : stp d x = 0) : x = 0 := by
  unfold stp at h
  split at h
  · have e : x / 2 = d := by
      have := congrArg (· ^^^ d) h
      simpa [Nat.xor_assoc] using this
    rw [Nat.pow_succ] at hx
    omega
  · omega
theorem rnd_ker {d j : Nat} (hd : 2 ^ j ≤ d) (hd2 : d < 2 ^ (j + 1)) : ∀ (k x : Nat), x < 2 ^ (j + 1) → rnd d k x = 0 → x = 0
  | 0, _, _, h => h
  | k + 1, x, hx, h => rnd_ker hd hd2 k x hx (stp_ker hd (rnd_lt hd2 k x hx) h)
/-- Division of no state and bytes, which are all nothing. -/
theorem dvd_xor3 (d : Nat) : ∀ (x y z : List UInt8) (s t u : Nat), y.length = x.length → z.length = x.length →
    dvd d (s ^^^ t ^^^ u) (List.zipWith (· ^^^ ·) (List.zipWith (· ^^^ ·) x y) z) = dvd d s x ^^^ dvd d t y ^^^ dvd d u z
  | [], [], [], _, _, _, _, _ => rfl
  | a :: x, b :: y, c :: z, s, t, u, hy, hz => by
    show dvd d (byt d (s ^^^ t ^^^ u) (a ^^^ b ^^^ c)) _ = dvd d (byt d s a) x ^^^ dvd d (byt d t b) y ^^^ dvd d (byt d u c) z
    rw [← dvd_xor3 d x y z _ _ _ (by simpa using hy) (by simpa using hz)]
    congr 1
    unfold byt
    rw [UInt8.toNat_xor, UInt8.toNat_xor, ← rnd_xor, ← rnd_xor]
    congr 1
    ac_rfl
  | [], _ :: _, _, _, _, _, h, _ => by cases h
  | [], [], _ :: _, _, _, _, _, h => by cases h
  | _ :: _, [], _, _, _, _, h, _ => by cases h
  | _ :: _, _ :: _, [], _, _, _, _, h => by cases h

theorem not3 (w a b c : Nat) (ha : a < 2 ^ w) (hb : b < 2 ^ w) (hc : c < 2 ^ w) : (2 ^ w - 1 - a) ^^^ (2 ^ w - 1 - b) ^^^ (2 ^ w - 1 - c) = 2 ^ w - 1 - (a ^^^ b ^^^ c) := by
  rw [← ones_xor w a ha, ← ones_xor w b hb, ← ones_xor w c hc, ← ones_xor w _ (Nat.xor_lt_two_pow (Nat.xor_lt_two_pow ha hb) hc)]
  generalize 2 ^ w - 1 = o
  rw [show (o ^^^ a) ^^^ (o ^^^ b) ^^^ (o ^^^ c) = (o ^^^ o) ^^^ (o ^^^ (a ^^^ b ^^^ c)) from by ac_rfl, Nat.xor_self, Nat.zero_xor]
theorem x25_xor3 (x y z : List UInt8) (hy : y.length = x.length) (hz : z.length = x.length) :
    x25 (List.zipWith (· ^^^ ·) (List.zipWith (· ^^^ ·) x y) z) = x25 x ^^^ x25 y ^^^ x25 z := by
  have h := dvd_xor3 33800 x y z 65535 65535 65535 hy hz
  rw [show 65535 ^^^ 65535 ^^^ 65535 = 65535 from rfl] at h
  unfold x25
  rw [h]
  exact (not3 16 _ _ _ (d16_lt x) (d16_lt y) (d16_lt z)).symm
theorem cas_xor3 (x y z : List UInt8) (hy : y.length = x.length) (hz : z.length = x.length) :
    cas (List.zipWith (· ^^^ ·) (List.zipWith (· ^^^ ·) x y) z) = cas x ^^^ cas y ^^^ cas z := by
  have h := dvd_xor3 2197175160 x y z 4294967295 4294967295 4294967295 hy hz
  rw [show 4294967295 ^^^ 4294967295 ^^^ 4294967295 = 4294967295 from by decide +kernel] at h
  unfold cas
  rw [h]
  exact (not3 32 _ _ _ (d32_lt x) (d32_lt y) (d32_lt z)).symm

/-- The state's difference is kept by whatever is alike behind it. -/
theorem dvd_inj {d j : Nat} (hd : 2 ^ j ≤ d) (hd2 : d < 2 ^ (j + 1)) (h8 : 7 ≤ j) : ∀ (l : List UInt8) (s t : Nat), s < 2 ^ (j + 1) → t < 2 ^ (j + 1) → dvd d s l = dvd d t l → s = t
  | [], _, _, _, _, h => h
  | c :: l, s, t, hs, ht, h => by
    have h1 := dvd_inj hd hd2 h8 l _ _ (byt_lt hd2 (by omega) s c hs) (byt_lt hd2 (by omega) t c ht) h
    unfold byt at h1
    rw [rnd_xor, rnd_xor] at h1
    have h2 : rnd d 8 s = rnd d 8 t := by
      have := congrArg (· ^^^ rnd d 8 c.toNat) h1
      simpa [Nat.xor_assoc] using this
    have h3 : rnd d 8 (s ^^^ t) = 0 := by rw [rnd_xor, h2, Nat.xor_self]
    have h4 := rnd_ker hd hd2 8 _ (Nat.xor_lt_two_pow hs ht) h3
    exact xor_eq0 h4

/-- A double is shifted. -/
theorem stp_dbl (d y : Nat) : stp d (2 * y) = y := by
  unfold stp
  rw [if_neg (by omega)]
  omega
theorem rnd8_shl (d y : Nat) : rnd d 8 (256 * y) = y := by
  show stp d (stp d (stp d (stp d (stp d (stp d (stp d (stp d (256 * y)))))))) = y
  rw [show 256 * y = 2 * (2 * (2 * (2 * (2 * (2 * (2 * (2 * y))))))) from by omega]
  repeat rw [stp_dbl]

/-- Two bytes that aren't both alike make unlike states. -/
theorem two_ne {d j : Nat} (hd : 2 ^ j ≤ d) (hd2 : d < 2 ^ (j + 1)) (hj : 15 ≤ j) (s : Nat) (hs : s < 2 ^ (j + 1)) (c0 c1 m0 m1 : UInt8) (h : byt d (byt d s c0) c1 = byt d (byt d s (c0 ^^^ m0)) (c1 ^^^ m1)) : m0 = 0 ∧ m1 = 0 := by
  unfold byt at h
  rw [UInt8.toNat_xor, UInt8.toNat_xor] at h
  have h1 : rnd d 8 (rnd d 8 (m0.toNat ^^^ 256 * m1.toNat)) = 0 := by
    rw [rnd_xor d 8 m0.toNat, rnd8_shl]
    rw [rnd_xor, rnd_xor d 8 s c0.toNat, rnd_xor, rnd_xor] at h
    rw [rnd_xor, rnd_xor, rnd_xor, rnd_xor, rnd_xor d 8 c1.toNat] at h
    rw [rnd_xor]
    exact cancel _ _ _ _ _ h
  have hp : (2 : Nat) ^ 16 ≤ 2 ^ (j + 1) := Nat.pow_le_pow_right (by omega) (by omega)
  have hm0 := m0.toNat_lt
  have hm1 := m1.toNat_lt
  have hl : m0.toNat ^^^ 256 * m1.toNat < 2 ^ (j + 1) := by
    have : m0.toNat ^^^ 256 * m1.toNat < 2 ^ 16 := Nat.xor_lt_two_pow (by omega) (by omega)
    omega
  have h3 := rnd_ker hd hd2 8 _ hl (rnd_ker hd hd2 8 _ (rnd_lt hd2 8 _ hl) h1)
  have h4 := xor_eq0 h3
  constructor <;> (apply UInt8.toNat_inj.1; simp; omega)

/-- Sixteen bits side by side, not all alike: the states differ at the end. -/
theorem turned_ne {d j : Nat} (hd : 2 ^ j ≤ d) (hd2 : d < 2 ^ (j + 1)) (hj : 15 ≤ j) : ∀ (l : List UInt8) (K : Nat) (s : Nat) (m0 m1 : UInt8), s < 2 ^ (j + 1) → K + 1 < l.length → ¬ (m0 = 0 ∧ m1 = 0) →
    dvd d s ((l.set K (l.getD K 0 ^^^ m0)).set (K + 1) (l.getD (K + 1) 0 ^^^ m1)) ≠ dvd d s l
  | a :: b :: l, 0, s, m0, m1, hs, _, hm, h => by
    have h1 : dvd d (byt d (byt d s (a ^^^ m0)) (b ^^^ m1)) l = dvd d (byt d (byt d s a) b) l := h
    have h2 := dvd_inj hd hd2 (by omega) l _ _ (byt_lt hd2 (by omega) _ _ (byt_lt hd2 (by omega) _ _ hs)) (byt_lt hd2 (by omega) _ _ (byt_lt hd2 (by omega) _ _ hs)) h1
    exact hm (two_ne hd hd2 hj s hs a b m0 m1 h2.symm)
  | a :: l, K + 1, s, m0, m1, hs, hK, hm, h =>
    turned_ne hd hd2 hj l K (byt d s a) m0 m1 (byt_lt hd2 (by omega) _ _ hs) (by simpa using hK) hm h
  | [], _, _, _, _, _, hK, _, _ => by simp at hK
  | [_], 0, _, _, _, _, hK, _, _ => by simp at hK
end Go.Proofs.Ytodgdkomiceamaa
