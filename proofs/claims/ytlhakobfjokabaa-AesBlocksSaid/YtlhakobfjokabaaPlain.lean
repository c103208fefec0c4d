/-
  The product of bytes as a plain function on numbers, and its laws.
-/
namespace Go.Proofs.Ytlhakobfjokabaa
/-- A byte, times two. -/
def xt (a : Nat) : Nat := (a * 2 % 256) ^^^ (a / 128 * 27)
/-- So many times. -/
def ma (a : Nat) : Nat → Nat
  | 0 => a
  | k + 1 => xt (ma a k)
/-- The sum of so many places. -/
def mo (a b : Nat) : Nat → Nat
  | 0 => 0
  | k + 1 => if b / 2 ^ k % 2 = 1 then mo a b k ^^^ ma a k else mo a b k
/-- The product. -/
def mul (a b : Nat) : Nat := mo a b 8

theorem xt_lt (a : Nat) (h : a < 256) : xt a < 256 := by
  unfold xt
  exact Nat.xor_lt_two_pow (n := 8) (by omega) (by omega)
theorem ma_lt (a : Nat) (h : a < 256) : ∀ k, ma a k < 256
  | 0 => h
  | k + 1 => xt_lt _ (ma_lt a h k)
theorem mo_lt (a b : Nat) (h : a < 256) : ∀ k, mo a b k < 256
  | 0 => by show 0 < 256; omega
  | k + 1 => by
    show (if b / 2 ^ k % 2 = 1 then mo a b k ^^^ ma a k else mo a b k) < 256
    split
    · exact Nat.xor_lt_two_pow (n := 8) (mo_lt a b h k) (ma_lt a h k)
    · exact mo_lt a b h k
theorem mul_lt (a b : Nat) (h : a < 256) : mul a b < 256 := mo_lt a b h 8
/-- Where no bit is left nothing more is added. -/
theorem mo_done (a b k : Nat) (h : b / 2 ^ k = 0) : ∀ j, mo a b (k + j) = mo a b k
  | 0 => rfl
  | j + 1 => by
    have e : b / 2 ^ (k + j) = 0 := by rw [Nat.pow_add, ← Nat.div_div_eq_div_mul, h, Nat.zero_div]
    show (if b / 2 ^ (k + j) % 2 = 1 then mo a b (k + j) ^^^ ma a (k + j) else mo a b (k + j)) = mo a b k
    rw [e, if_neg (by decide)]
    exact mo_done a b k h j
theorem mo_mul (a b k : Nat) (hk : k ≤ 8) (h : b / 2 ^ k = 0) : mo a b k = mul a b := by
  have := mo_done a b k h (8 - k)
  rw [show k + (8 - k) = 8 from by omega] at this
  exact this.symm
/-- The reference's doubling is the same. -/
theorem xt_ref : ∀ a, a < 256 → xt a = if 256 ≤ a * 2 then a * 2 ^^^ 283 else a * 2 := by decide +kernel

theorem xor_mod2 (x y : Nat) : (x ^^^ y) % 2 = (x % 2 + y % 2) % 2 := by
  have := Nat.xor_mod_two_pow (a := x) (b := y) (n := 1)
  rw [show (2 : Nat) ^ 1 = 2 from rfl] at this
  rw [this]
  rcases Nat.mod_two_eq_zero_or_one x with hx | hx <;> rcases Nat.mod_two_eq_zero_or_one y with hy | hy <;> rw [hx, hy] <;> rfl
theorem bit_lin (p q : Nat) (hp : p < 2) (hq : q < 2) : (p ^^^ q) * 27 = p * 27 ^^^ q * 27 := by
  rcases (show p = 0 ∨ p = 1 by omega) with rfl | rfl <;> rcases (show q = 0 ∨ q = 1 by omega) with rfl | rfl <;> rfl
theorem xt_xor (a b : Nat) (ha : a < 256) (hb : b < 256) : xt (a ^^^ b) = xt a ^^^ xt b := by
  unfold xt
  have h1 : (a ^^^ b) * 2 % 256 = (a * 2 % 256) ^^^ (b * 2 % 256) := by
    have e : (a ^^^ b) * 2 = (a * 2) ^^^ (b * 2) := by
      have := Nat.shiftLeft_xor_distrib (a := a) (b := b) (i := 1)
      simpa [Nat.shiftLeft_eq] using this
    rw [e]
    exact Nat.xor_mod_two_pow (n := 8)
  have h2 : (a ^^^ b) / 128 = a / 128 ^^^ b / 128 := Nat.xor_div_two_pow (n := 7)
  rw [h1, h2, bit_lin _ _ (by omega) (by omega)]
  ac_rfl
theorem ma_xor (a b : Nat) (ha : a < 256) (hb : b < 256) : ∀ k, ma (a ^^^ b) k = ma a k ^^^ ma b k
  | 0 => rfl
  | k + 1 => by
    show xt _ = xt _ ^^^ xt _
    rw [ma_xor a b ha hb k, xt_xor _ _ (ma_lt a ha k) (ma_lt b hb k)]
/-- Linear on the left. -/
theorem mo_xorL (a b c : Nat) (ha : a < 256) (hb : b < 256) : ∀ k, mo (a ^^^ b) c k = mo a c k ^^^ mo b c k
  | 0 => by show 0 = 0 ^^^ 0; rfl
  | k + 1 => by
    show (if c / 2 ^ k % 2 = 1 then mo (a ^^^ b) c k ^^^ ma (a ^^^ b) k else mo (a ^^^ b) c k) = (if c / 2 ^ k % 2 = 1 then mo a c k ^^^ ma a k else mo a c k) ^^^ (if c / 2 ^ k % 2 = 1 then mo b c k ^^^ ma b k else mo b c k)
    rw [mo_xorL a b c ha hb k, ma_xor a b ha hb k]
    split
    · ac_rfl
    · rfl
theorem mul_xorL (a b c : Nat) (ha : a < 256) (hb : b < 256) : mul (a ^^^ b) c = mul a c ^^^ mul b c := mo_xorL a b c ha hb 8
/-- Linear on the right. -/
theorem mo_xorR (a b c : Nat) : ∀ k, mo a (b ^^^ c) k = mo a b k ^^^ mo a c k
  | 0 => by show 0 = 0 ^^^ 0; rfl
  | k + 1 => by
    show (if (b ^^^ c) / 2 ^ k % 2 = 1 then mo a (b ^^^ c) k ^^^ ma a k else mo a (b ^^^ c) k) = (if b / 2 ^ k % 2 = 1 then mo a b k ^^^ ma a k else mo a b k) ^^^ (if c / 2 ^ k % 2 = 1 then mo a c k ^^^ ma a k else mo a c k)
    rw [mo_xorR a b c k, Nat.xor_div_two_pow, xor_mod2]
    rcases Nat.mod_two_eq_zero_or_one (b / 2 ^ k) with hx | hx <;> rcases Nat.mod_two_eq_zero_or_one (c / 2 ^ k) with hy | hy <;> rw [hx, hy] <;> simp
    · ac_rfl
    · ac_rfl
    · rw [show mo a b k ^^^ ma a k ^^^ (mo a c k ^^^ ma a k) = (mo a b k ^^^ mo a c k) ^^^ (ma a k ^^^ ma a k) from by ac_rfl, Nat.xor_self, Nat.xor_zero]
theorem mul_xorR (a b c : Nat) : mul a (b ^^^ c) = mul a b ^^^ mul a c := mo_xorR a b c 8

/-- What holds of the eight powers of two and of sums holds of all bytes. -/
theorem byBits (P : Nat → Prop) (h0 : P 0) (hp : ∀ i, i < 8 → P (2 ^ i)) (hx : ∀ a b, a < 256 → b < 256 → P a → P b → P (a ^^^ b)) : ∀ a, a < 256 → P a := by
  have key : ∀ n, n ≤ 8 → ∀ a, a < 2 ^ n → P a := by
    intro n
    induction n with
    | zero =>
      intro _ a ha
      have : a = 0 := by simpa using ha
      rw [this]
      exact h0
    | succ n ih =>
      intro hn a ha
      have hlt : 2 ^ n < 256 := by
        have : (2 : Nat) ^ n ≤ 2 ^ 7 := Nat.pow_le_pow_right (by omega) (by omega)
        omega
      by_cases h : a < 2 ^ n
      · exact ih (by omega) a h
      · have ha2 : a < 2 * 2 ^ n := by rw [Nat.pow_succ] at ha; omega
        have e : a = 2 ^ n ^^^ (a - 2 ^ n) := by
          have h1 : (2 ^ n ||| (a - 2 ^ n)) = 2 ^ n + (a - 2 ^ n) := by
            have := Nat.two_pow_add_eq_or_of_lt (b := a - 2 ^ n) (i := n) (by omega) 1
            simpa using this.symm
          apply Nat.eq_of_testBit_eq
          intro i
          rw [show a = 2 ^ n ||| (a - 2 ^ n) from by omega, Nat.testBit_or, Nat.testBit_xor, show (2 ^ n ||| a - 2 ^ n) - 2 ^ n = a - 2 ^ n from by omega]
          by_cases hi : n = i
          · subst hi
            rw [Nat.testBit_lt_two_pow (show a - 2 ^ n < 2 ^ n by omega)]
            simp
          · rw [Nat.testBit_two_pow_of_ne hi]
            simp
        rw [e]
        exact hx _ _ hlt (by omega) (hp n (by omega)) (ih (by omega) _ (by omega))
  exact key 8 (by omega)
theorem ma_zero : ∀ k, ma 0 k = 0
  | 0 => rfl
  | k + 1 => by
    show xt (ma 0 k) = 0
    rw [ma_zero k]
    rfl
theorem mo_zeroL (b : Nat) : ∀ k, mo 0 b k = 0
  | 0 => rfl
  | k + 1 => by
    show (if b / 2 ^ k % 2 = 1 then mo 0 b k ^^^ ma 0 k else mo 0 b k) = 0
    rw [mo_zeroL b k, ma_zero]
    split <;> rfl
theorem mul_zeroL (b : Nat) : mul 0 b = 0 := mo_zeroL b 8
theorem mul_zeroR (a : Nat) : mul a 0 = 0 := mo_done a 0 0 rfl 8
theorem mul_oneR (a : Nat) : mul a 1 = a := by
  have h := mo_done a 1 1 rfl 7
  show mo a 1 8 = a
  rw [show 8 = 1 + 7 from rfl, h]
  show 0 ^^^ a = a
  exact Nat.zero_xor a
theorem comm_bits : ∀ i, i < 8 → ∀ j, j < 8 → mul (2 ^ i) (2 ^ j) = mul (2 ^ j) (2 ^ i) := by decide +kernel
theorem mul_comm (a b : Nat) (ha : a < 256) (hb : b < 256) : mul a b = mul b a := by
  revert a
  refine byBits _ ?_ ?_ ?_
  · rw [mul_zeroL, mul_zeroR]
  · intro i hi
    revert b
    refine byBits _ ?_ ?_ ?_
    · rw [mul_zeroL, mul_zeroR]
    · exact comm_bits i hi
    · intro x y hx hy h1 h2
      rw [mul_xorR, mul_xorL _ _ _ hx hy, h1, h2]
  · intro x y hx hy h1 h2
    rw [mul_xorL _ _ _ hx hy, mul_xorR, h1, h2]
theorem assoc_bits : ∀ i, i < 8 → ∀ j, j < 8 → ∀ k, k < 8 → mul (mul (2 ^ i) (2 ^ j)) (2 ^ k) = mul (2 ^ i) (mul (2 ^ j) (2 ^ k)) := by decide +kernel
theorem pow_lt (i : Nat) (h : i < 8) : 2 ^ i < 256 := by
  have : (2 : Nat) ^ i ≤ 2 ^ 7 := Nat.pow_le_pow_right (by omega) (by omega)
  omega
theorem mul_assoc (a b c : Nat) (ha : a < 256) (hb : b < 256) (hc : c < 256) : mul (mul a b) c = mul a (mul b c) := by
  revert a
  refine byBits _ ?_ ?_ ?_
  · rw [mul_zeroL, mul_zeroL, mul_zeroL]
  · intro i hi
    revert b
    refine byBits _ ?_ ?_ ?_
    · rw [mul_zeroR, mul_zeroL, mul_zeroR]
    · intro j hj
      revert c
      refine byBits _ ?_ ?_ ?_
      · rw [mul_zeroR, mul_zeroR, mul_zeroR]
      · exact assoc_bits i hi j hj
      · intro x y hx hy h1 h2
        rw [mul_xorR, mul_xorR, mul_xorR, h1, h2]
    · intro x y hx hy h1 h2
      rw [mul_xorR, mul_xorL _ _ _ (mul_lt _ _ (pow_lt i hi)) (mul_lt _ _ (pow_lt i hi)), mul_xorL _ _ _ hx hy, mul_xorR, h1, h2]
  · intro x y hx hy h1 h2
    rw [mul_xorL _ _ _ hx hy, mul_xorL _ _ _ (mul_lt _ _ hx) (mul_lt _ _ hy), mul_xorL _ _ _ hx hy, h1, h2]
/-- The 254th power, as the program takes it. -/
def pw (b : Nat) : Nat → Nat
  | 0 => 1
  | k + 1 => if 254 / 2 ^ (7 - k) % 2 = 1 then mul (mul (pw b k) (pw b k)) b else mul (pw b k) (pw b k)
theorem pw_lt (b : Nat) (hb : b < 256) : ∀ k, pw b k < 256
  | 0 => by show 1 < 256; omega
  | k + 1 => by
    show (if 254 / 2 ^ (7 - k) % 2 = 1 then mul (mul (pw b k) (pw b k)) b else mul (pw b k) (pw b k)) < 256
    split
    · exact mul_lt _ _ (mul_lt _ _ (pw_lt b hb k))
    · exact mul_lt _ _ (pw_lt b hb k)
theorem inv_all : ∀ a, a < 256 → a ≠ 0 → mul (pw a 8) a = 1 := by decide +kernel
theorem mul_none (a b : Nat) (ha : a < 256) (hb : b < 256) (h : mul a b = 0) : a = 0 ∨ b = 0 := by
  by_cases h0 : a = 0
  · exact Or.inl h0
  · right
    have h1 := inv_all a ha h0
    have h2 := mul_assoc (pw a 8) a b (pw_lt a ha 8) ha hb
    rw [h1, h, mul_zeroR, mul_comm 1 b (by decide) hb, mul_oneR] at h2
    exact h2
end Go.Proofs.Ytlhakobfjokabaa
