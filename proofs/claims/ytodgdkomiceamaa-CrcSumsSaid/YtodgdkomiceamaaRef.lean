/-
  The document's own division, as plain functions, and that it is the program's, its bits in the other order.
-/
import Derived.Test.YtodgdkomiceamaaLaw
namespace Go.Proofs.Ytodgdkomiceamaa

/-- The low k bits in the other order. -/
def rv : Nat → Nat → Nat
  | 0, _ => 0
  | k + 1, n => rv k n * 2 + n / 2 ^ k % 2
/-- One bit of the reference's division: w bits, divisor d, bit b. -/
def rbit (w d r b : Nat) : Nat := if r / 2 ^ (w - 1) ≠ b then (r * 2 % 2 ^ w) ^^^ d else r * 2 % 2 ^ w
/-- So many bits of a byte. -/
def rbits (w d r c : Nat) : Nat → Nat
  | 0 => r
  | k + 1 => rbit w d (rbits w d r c k) (c / 2 ^ k % 2)
/-- A list of bytes. -/
def rdiv (w d r : Nat) (l : List UInt8) : Nat := l.foldl (fun r c => rbits w d r c.toNat 8) r

theorem rv_testBit : ∀ (k n i : Nat), (rv k n).testBit i = (decide (i < k) && n.testBit (k - 1 - i))
  | 0, n, i => by simp [rv]
  | k + 1, n, i => by
    have hb : n / 2 ^ k % 2 = (n.testBit k).toNat := by rw [Nat.toNat_testBit]
    have h2 : rv k n * 2 + n / 2 ^ k % 2 = 2 * rv k n + (n.testBit k).toNat := by rw [hb]; omega
    show (rv k n * 2 + n / 2 ^ k % 2).testBit i = _
    rw [h2]
    cases i with
    | zero =>
      rw [Nat.testBit_zero]
      simp
      cases n.testBit k <;> simp <;> omega
    | succ i =>
      rw [Nat.testBit_succ, show (2 * rv k n + (n.testBit k).toNat) / 2 = rv k n from by cases n.testBit k <;> simp <;> omega, rv_testBit k n i]
      rw [show k + 1 - 1 - (i + 1) = k - 1 - i from by omega]
      congr 1
      simp
theorem rv_lt (k n : Nat) : rv k n < 2 ^ k := by
  apply Nat.lt_pow_two_of_testBit
  intro i hi
  rw [rv_testBit]
  simp
  omega
theorem rv_xor (k x y : Nat) : rv k (x ^^^ y) = rv k x ^^^ rv k y := by
  apply Nat.eq_of_testBit_eq
  intro i
  rw [Nat.testBit_xor, rv_testBit, rv_testBit, rv_testBit, Nat.testBit_xor]
  cases decide (i < k) <;> simp
theorem rv_dbl (w r : Nat) : rv w (r * 2 % 2 ^ w) = rv w r / 2 := by
  apply Nat.eq_of_testBit_eq
  intro i
  rw [Nat.testBit_div_two, rv_testBit, rv_testBit, Nat.testBit_mod_two_pow]
  by_cases h : i + 1 < w
  · have e : w - 1 - i = (w - 1 - (i + 1)) + 1 := by omega
    rw [e, Nat.mul_comm, Nat.testBit_succ]
    simp [show i < w by omega, h, show w - 1 - (i + 1) + 1 < w by omega]
  · by_cases h2 : i < w
    · have e : w - 1 - i = 0 := by omega
      rw [e, Nat.testBit_zero]
      simp [h]
    · simp [h, h2]
theorem rv_low (w r : Nat) (hw : 0 < w) (hr : r < 2 ^ w) : rv w r % 2 = r / 2 ^ (w - 1) := by
  have h := rv_testBit w r 0
  rw [Nat.testBit_zero] at h
  have h3 : r.testBit (w - 1) = decide (r / 2 ^ (w - 1) % 2 = 1) := by rw [Nat.testBit_eq_decide_div_mod_eq]
  have h2 : r / 2 ^ (w - 1) < 2 := by
    apply Nat.div_lt_of_lt_mul
    rw [← Nat.pow_succ]
    show r < 2 ^ (w - 1 + 1)
    rw [show w - 1 + 1 = w from by omega]
    exact hr
  generalize r / 2 ^ (w - 1) = q at *
  simp [hw, h3] at h
  omega

/-- One bit of both. -/
theorem rbit_stp (w d by_ r b : Nat) (hw : 0 < w) (hr : r < 2 ^ w) (hb : b < 2) (hd : rv w d = by_) : rv w (rbit w d r b) = stp by_ (rv w r ^^^ b) := by
  have hl := rv_low w r hw hr
  unfold rbit stp
  have hm : (rv w r ^^^ b) % 2 = (r / 2 ^ (w - 1) + b) % 2 := by
    rw [xor_mod2, hl]
    omega
  have h0 : (rv w r ^^^ b) / 2 = rv w r / 2 := by
    rw [xor_div2, show b / 2 = 0 from by omega, Nat.xor_zero]
  have h2 : r / 2 ^ (w - 1) < 2 := by omega
  rw [hm, h0, ← rv_dbl w r]
  by_cases h : r / 2 ^ (w - 1) = b
  · rw [if_neg (by simp [h]), if_neg (by omega)]
  · rw [if_pos h, if_pos (by omega), rv_xor, hd]
theorem rbit_lt (w d r b : Nat) (hd : d < 2 ^ w) : rbit w d r b < 2 ^ w := by
  have : r * 2 % 2 ^ w < 2 ^ w := Nat.mod_lt _ (Nat.two_pow_pos w)
  unfold rbit
  split
  · exact Nat.xor_lt_two_pow this hd
  · exact this
theorem rbits_lt (w d r c : Nat) (hr : r < 2 ^ w) (hd : d < 2 ^ w) : ∀ k, rbits w d r c k < 2 ^ w
  | 0 => hr
  | _ + 1 => rbit_lt w d _ _ hd
theorem rbits_rnd (w d by_ r c : Nat) (hw : 0 < w) (hr : r < 2 ^ w) (hd2 : d < 2 ^ w) (hd : rv w d = by_) : ∀ k, rnd by_ k (rv w r ^^^ c) = rv w (rbits w d r c k) ^^^ (c / 2 ^ k)
  | 0 => by simp [rnd, rbits]
  | k + 1 => by
    have ih := rbits_rnd w d by_ r c hw hr hd2 hd k
    show stp by_ (rnd by_ k (rv w r ^^^ c)) = rv w (rbit w d (rbits w d r c k) (c / 2 ^ k % 2)) ^^^ (c / 2 ^ (k + 1))
    rw [ih, rbit_stp w d by_ _ _ hw (rbits_lt w d r c hr hd2 k) (by omega) hd]
    have hc : c / 2 ^ k = (c / 2 ^ k % 2) ^^^ (2 * (c / 2 ^ (k + 1))) := by
      rw [Nat.pow_succ, ← Nat.div_div_eq_div_mul]
      generalize c / 2 ^ k = x
      apply Nat.eq_of_testBit_eq
      intro i
      rw [Nat.testBit_xor]
      cases i with
      | zero => simp [Nat.testBit_zero]
      | succ i =>
        rw [Nat.testBit_succ, Nat.testBit_succ, Nat.testBit_succ, show x % 2 / 2 = 0 from by omega, show 2 * (x / 2) / 2 = x / 2 from by omega]
        simp
    have hx : rv w (rbits w d r c k) ^^^ c / 2 ^ k = (rv w (rbits w d r c k) ^^^ (c / 2 ^ k % 2)) ^^^ (2 * (c / 2 ^ (k + 1))) := by
      conv => lhs; rw [hc]
      ac_rfl
    rw [hx, stp_xor, stp_dbl]
theorem rdiv_dvd (w d by_ : Nat) (hw : 0 < w) (hd2 : d < 2 ^ w) (hd : rv w d = by_) : ∀ (l : List UInt8) (r : Nat), r < 2 ^ w → dvd by_ (rv w r) l = rv w (rdiv w d r l)
  | [], _, _ => rfl
  | c :: l, r, hr => by
    have h := rbits_rnd w d by_ r c.toNat hw hr hd2 hd 8
    have hc := c.toNat_lt
    rw [show c.toNat / 2 ^ 8 = 0 from by omega, Nat.xor_zero] at h
    show dvd by_ (byt by_ (rv w r) c) l = rv w (rdiv w d (rbits w d r c.toNat 8) l)
    rw [← rdiv_dvd w d by_ hw hd2 hd l _ (rbits_lt w d r _ hr hd2 8)]
    unfold byt
    rw [h]
theorem rdiv_lt (w d : Nat) (hd2 : d < 2 ^ w) : ∀ (l : List UInt8) (r : Nat), r < 2 ^ w → rdiv w d r l < 2 ^ w
  | [], _, h => h
  | _ :: l, r, h => rdiv_lt w d hd2 l _ (rbits_lt w d r _ h hd2 8)
theorem rdiv_take (w d r : Nat) (b : ByteArray) (k : Nat) (h : k < b.size) : rdiv w d r (b.data.toList.take (k + 1)) = rbits w d (rdiv w d r (b.data.toList.take k)) b[k].toNat 8 := by
  rw [List.take_succ_eq_append_getElem (by simpa using h)]
  unfold rdiv
  rw [List.foldl_append]
  rfl
/-- What the reference answers. -/
def rsum (w d : Nat) (l : List UInt8) : Nat := rv w (2 ^ w - 1 - rdiv w d (2 ^ w - 1) l)
theorem rsum_eq (w d by_ : Nat) (hw : 0 < w) (hd2 : d < 2 ^ w) (hd : rv w d = by_) (ho : rv w (2 ^ w - 1) = 2 ^ w - 1) (l : List UInt8) : rsum w d l = 2 ^ w - 1 - dvd by_ (2 ^ w - 1) l := by
  have hp := Nat.two_pow_pos w
  have h := rdiv_dvd w d by_ hw hd2 hd l (2 ^ w - 1) (by omega)
  have hl := rdiv_lt w d hd2 l (2 ^ w - 1) (by omega)
  rw [ho] at h
  unfold rsum
  rw [← ones_xor w _ hl, rv_xor, ho, ← h, ones_xor]
  rw [h]
  exact rv_lt _ _
theorem rsum16 (l : List UInt8) : rsum 16 4129 l = x25 l := rsum_eq 16 4129 33800 (by decide) (by decide) (by decide) (by decide) l
theorem rsum32 (l : List UInt8) : rsum 32 517762881 l = cas l := rsum_eq 32 517762881 2197175160 (by decide) (by decide) (by decide) (by decide) l
end Go.Proofs.Ytodgdkomiceamaa
