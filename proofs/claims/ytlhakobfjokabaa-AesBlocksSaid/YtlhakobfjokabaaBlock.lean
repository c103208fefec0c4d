/-
  What encryption and decryption compute, and that each undoes the other.
-/
import Derived.Test.YtlhakobfjokabaaTables
import Derived.Test.YtlhakobfjokabaaTable
namespace Go.Proofs.Ytlhakobfjokabaa

/-! ### The tables -/
/-- The powers, one behind the other. -/
def pqL : Nat → Nat → Nat → List (Nat × Nat)
  | 0, _, _ => []
  | n + 1, p, q => (p, q) :: pqL n (mul p 3) (mul q 246)
theorem pqL_at : ∀ (n k i : Nat), k < n → (pqL n (pq i).1 (pq i).2)[k]? = some (pq (i + k))
  | 0, _, _, h => absurd h (by omega)
  | n + 1, 0, i, _ => by simp [pqL]
  | n + 1, k + 1, i, h => by
    have := pqL_at n k (i + 1) (by omega)
    rw [pqL, List.getElem?_cons_succ]
    rw [show i + (k + 1) = i + 1 + k by omega]
    exact this
/-- Each power's inverse is what the table takes. -/
theorem pq_good : (pqL 256 1 1).all (fun x => sub x.1 == aff x.2 4 && x.1 != 0) = true := by decide +kernel
theorem pq_full : (List.range 255).all (fun x => ((pqL 256 1 1).drop 1).any (fun y => y.1 == x + 1)) = true := by decide +kernel
theorem pq_sub (k : Nat) (h : k < 256) : sub (pq k).1 = aff (pq k).2 4 ∧ (pq k).1 ≠ 0 := by
  have h1 := pqL_at 256 k 0 h
  rw [Nat.zero_add] at h1
  have h2 := List.all_eq_true.1 pq_good (pq k) (List.mem_of_getElem? h1)
  simpa using h2
theorem pq_all (x : Nat) (h0 : x ≠ 0) (h : x < 256) : ∃ k, 1 ≤ k ∧ k ≤ 255 ∧ (pq k).1 = x := by
  have h1 := List.all_eq_true.1 pq_full (x - 1) (by simp; omega)
  obtain ⟨y, hy, he⟩ := List.any_eq_true.1 h1
  obtain ⟨k, hk⟩ := List.getElem?_of_mem hy
  rw [List.getElem?_drop] at hk
  have hl : (pqL 256 1 1).length = 256 := by decide +kernel
  have hkl : 1 + k < 256 := by
    rcases Nat.lt_or_ge (1 + k) 256 with g | g
    · exact g
    · rw [List.getElem?_eq_none (by omega)] at hk; cases hk
  have h3 := pqL_at 256 (1 + k) 0 hkl
  rw [Nat.zero_add] at h3
  rw [show pqL 256 (pq 0).1 (pq 0).2 = pqL 256 1 1 from rfl, hk] at h3
  refine ⟨1 + k, by omega, by omega, ?_⟩
  injection h3 with h3
  rw [← h3]
  have := beq_iff_eq.1 he
  omega
theorem subT_zero : ∀ k, k < 256 → subT k 0 = sub 0
  | 0, _ => by decide +kernel
  | k + 1, h => by
    show Ytlhakobfjokabaa.put (subT k) (pq (k + 1)).1 (aff (pq (k + 1)).2 4) 0 = _
    unfold Ytlhakobfjokabaa.put
    rw [if_neg (fun e => (pq_sub (k + 1) h).2 e.symm)]
    exact subT_zero k (by omega)
theorem subT_at (i : Nat) (h1 : 1 ≤ i) : ∀ k, i ≤ k → k < 256 → subT k (pq i).1 = sub (pq i).1
  | 0, h, _ => absurd h (by omega)
  | k + 1, h, hk => by
    show Ytlhakobfjokabaa.put (subT k) (pq (k + 1)).1 (aff (pq (k + 1)).2 4) (pq i).1 = _
    unfold Ytlhakobfjokabaa.put
    by_cases e : (pq i).1 = (pq (k + 1)).1
    · rw [if_pos e, e]
      exact (pq_sub (k + 1) hk).1.symm
    · rw [if_neg e]
      exact subT_at i h1 k (by
        rcases Nat.lt_or_ge k i with g | g
        · exfalso; apply e; rw [show i = k + 1 by omega]
        · exact g) (by omega)
/-- The table's bytes are the standard's. -/
theorem subT_sub (x : Nat) (h : x < 256) : subT 255 x = sub x := by
  by_cases h0 : x = 0
  · subst h0; exact subT_zero 255 (by decide)
  · obtain ⟨k, h1, h2, rfl⟩ := pq_all x h0 h
    exact subT_at k h1 255 h2 (by decide)
theorem backT_at (S : Nat → Nat) (hS : ∀ a b, a < 256 → b < 256 → S a = S b → a = b) (x : Nat) : ∀ k, x < k → k ≤ 256 → backT S k (S x) = x
  | 0, h, _ => absurd h (by omega)
  | k + 1, h, hk => by
    show Ytlhakobfjokabaa.put (backT S k) (S k) k (S x) = x
    unfold Ytlhakobfjokabaa.put
    by_cases e : S x = S k
    · rw [if_pos e]; exact (hS x k (by omega) (by omega) e).symm
    · rw [if_neg e]
      exact backT_at S hS x k (by
        rcases Nat.lt_or_ge x k with g | g
        · exact g
        · exfalso; apply e; rw [show x = k by omega]) (by omega)
theorem backT_lt (S : Nat → Nat) : ∀ k, k ≤ 256 → ∀ j, backT S k j < 256
  | 0, _, _ => by show 0 < 256; decide
  | k + 1, h, j => by
    show Ytlhakobfjokabaa.put (backT S k) (S k) k j < 256
    unfold Ytlhakobfjokabaa.put
    split
    · omega
    · exact backT_lt S k (by omega) j
theorem subT_inj (a b : Nat) (ha : a < 256) (hb : b < 256) (h : subT 255 a = subT 255 b) : a = b := by
  rw [subT_sub a ha, subT_sub b hb] at h
  exact sub_inj a b ha hb h
/-- Back of forth. -/
theorem back_sub (x : Nat) (h : x < 256) : backT (subT 255) 256 (subT 255 x) = x := backT_at _ subT_inj x 256 h (Nat.le_refl _)
theorem sub_bck : ∀ a, a < 256 → sub (bck.getD a 0) = a ∧ bck.getD a 0 < 256 := by decide +kernel
/-- Forth of back. -/
theorem sub_back (x : Nat) (h : x < 256) : subT 255 (backT (subT 255) 256 x) = x := by
  obtain ⟨h1, h2⟩ := sub_bck x h
  have h3 := back_sub _ h2
  rw [subT_sub _ h2, h1] at h3
  rw [h3, subT_sub _ h2, h1]

/-! ### States -/
/-- The same sixteen bytes. -/
def Same (f g : Nat → Nat) : Prop := ∀ j, j < 16 → f j = g j
theorem Same.trn {f g : Nat → Nat} (h : Same f g) (b : Nat) : Same (trn b f) (trn b g) := fun j _ => h _ (by omega)
theorem mixA_same {a f g : Nat → Nat} (h : Same f g) (n : Nat) (hn : n < 16) : ∀ j, mixA a f n j = mixA a g n j
  | 0 => rfl
  | j + 1 => by rw [mixA, mixA, mixA_same h n hn j, h _ (by omega)]
theorem Same.mx {f g : Nat → Nat} (h : Same f g) (a : Nat → Nat) : Same (mx a f) (mx a g) := fun n hn => mixA_same h n hn 4
theorem trn31 (f : Nat → Nat) : Same (trn 3 (trn 1 f)) f := fun j hj => by
  unfold trn
  congr 1
  omega
theorem trn13 (f : Nat → Nat) : Same (trn 1 (trn 3 f)) f := fun j hj => by
  unfold trn
  congr 1
  omega
/-- The columns' factors, forth. -/
def cF (j : Nat) : Nat := [2, 3, 1, 1].getD j 0
/-- The columns' factors, back. -/
def cB (j : Nat) : Nat := [14, 11, 13, 9].getD j 0
theorem cF_lt (j : Nat) : cF j < 256 := by
  unfold cF
  rcases Nat.lt_or_ge j 4 with h | h
  · rcases (by omega : j = 0 ∨ j = 1 ∨ j = 2 ∨ j = 3) with rfl | rfl | rfl | rfl <;> decide
  · rw [List.getD_eq_getElem?_getD, List.getElem?_eq_none (by simpa using h)]; decide
theorem cB_lt (j : Nat) : cB j < 256 := by
  unfold cB
  rcases Nat.lt_or_ge j 4 with h | h
  · rcases (by omega : j = 0 ∨ j = 1 ∨ j = 2 ∨ j = 3) with rfl | rfl | rfl | rfl <;> decide
  · rw [List.getD_eq_getElem?_getD, List.getElem?_eq_none (by simpa using h)]; decide
/-- A column's product. -/
def col (a : Nat → Nat) (x y z t : Nat) : Nat := mul x (a 0) ^^^ mul y (a 1) ^^^ mul z (a 2) ^^^ mul t (a 3)
theorem mx_col (a f : Nat → Nat) (n : Nat) : mx a f n = col a (f (4 * (n / 4) + (n % 4 + 0) % 4)) (f (4 * (n / 4) + (n % 4 + 1) % 4)) (f (4 * (n / 4) + (n % 4 + 2) % 4)) (f (4 * (n / 4) + (n % 4 + 3) % 4)) := by
  show 0 ^^^ _ ^^^ _ ^^^ _ ^^^ _ = _
  rw [Nat.zero_xor]
  rfl
theorem mul4 (x a b c d k : Nat) (hx : x < 256) (ha : a < 256) (hb : b < 256) (hc : c < 256) (hd : d < 256) (hk : k < 256) (y z t : Nat) (hy : y < 256) (hz : z < 256) (ht : t < 256) :
    mul (mul x a ^^^ mul y b ^^^ mul z c ^^^ mul t d) k = mul x (mul a k) ^^^ mul y (mul b k) ^^^ mul z (mul c k) ^^^ mul t (mul d k) := by
  have l {p q : Nat} (hp : p < 256) (hq : q < 256) : p ^^^ q < 256 := Nat.xor_lt_two_pow (n := 8) hp hq
  rw [mul_xorL _ _ _ (l (l (mul_lt _ _ hx) (mul_lt _ _ hy)) (mul_lt _ _ hz)) (mul_lt _ _ ht), mul_xorL _ _ _ (l (mul_lt _ _ hx) (mul_lt _ _ hy)) (mul_lt _ _ hz), mul_xorL _ _ _ (mul_lt _ _ hx) (mul_lt _ _ hy),
    mul_assoc x a k hx ha hk, mul_assoc y b k hy hb hk, mul_assoc z c k hz hc hk, mul_assoc t d k ht hd hk]
/-- Factors whose products cancel. -/
structure Inv (a b : Nat → Nat) : Prop where
  la : ∀ j, a j < 256
  lb : ∀ j, b j < 256
  e0 : mul (a 0) (b 0) ^^^ mul (a 3) (b 1) ^^^ mul (a 2) (b 2) ^^^ mul (a 1) (b 3) = 1
  e1 : mul (a 1) (b 0) ^^^ mul (a 0) (b 1) ^^^ mul (a 3) (b 2) ^^^ mul (a 2) (b 3) = 0
  e2 : mul (a 2) (b 0) ^^^ mul (a 1) (b 1) ^^^ mul (a 0) (b 2) ^^^ mul (a 3) (b 3) = 0
  e3 : mul (a 3) (b 0) ^^^ mul (a 2) (b 1) ^^^ mul (a 1) (b 2) ^^^ mul (a 0) (b 3) = 0
theorem invFB : Inv cF cB := ⟨cF_lt, cB_lt, by decide +kernel, by decide +kernel, by decide +kernel, by decide +kernel⟩
theorem invBF : Inv cB cF := ⟨cB_lt, cF_lt, by decide +kernel, by decide +kernel, by decide +kernel, by decide +kernel⟩
theorem col_col {a b : Nat → Nat} (h : Inv a b) (x y z t : Nat) (hx : x < 256) (hy : y < 256) (hz : z < 256) (ht : t < 256) :
    col b (col a x y z t) (col a y z t x) (col a z t x y) (col a t x y z) = x := by
  have ex : mul x (mul (a 0) (b 0) ^^^ mul (a 3) (b 1) ^^^ mul (a 2) (b 2) ^^^ mul (a 1) (b 3)) = x := by rw [h.e0, mul_oneR]
  have ey : mul y (mul (a 1) (b 0) ^^^ mul (a 0) (b 1) ^^^ mul (a 3) (b 2) ^^^ mul (a 2) (b 3)) = 0 := by rw [h.e1, mul_zeroR]
  have ez : mul z (mul (a 2) (b 0) ^^^ mul (a 1) (b 1) ^^^ mul (a 0) (b 2) ^^^ mul (a 3) (b 3)) = 0 := by rw [h.e2, mul_zeroR]
  have et : mul t (mul (a 3) (b 0) ^^^ mul (a 2) (b 1) ^^^ mul (a 1) (b 2) ^^^ mul (a 0) (b 3)) = 0 := by rw [h.e3, mul_zeroR]
  rw [mul_xorR, mul_xorR, mul_xorR] at ex ey ez et
  have la := h.la
  have lb := h.lb
  unfold col
  rw [mul4 x _ _ _ _ _ hx (la 0) (la 1) (la 2) (la 3) (lb 0) y z t hy hz ht, mul4 y _ _ _ _ _ hy (la 0) (la 1) (la 2) (la 3) (lb 1) z t x hz ht hx,
    mul4 z _ _ _ _ _ hz (la 0) (la 1) (la 2) (la 3) (lb 2) t x y ht hx hy, mul4 t _ _ _ _ _ ht (la 0) (la 1) (la 2) (la 3) (lb 3) x y z hx hy hz]
  have e : x ^^^ 0 ^^^ 0 ^^^ 0 = x := by simp
  refine Eq.trans ?_ e
  refine Eq.trans ?_ (congr (congrArg HXor.hXor (congr (congrArg HXor.hXor (congr (congrArg HXor.hXor ex) ey)) ez)) et)
  ac_rfl
theorem mx_mx {a b : Nat → Nat} (h : Inv a b) (f : Nat → Nat) (hf : ∀ j, f j < 256) : Same (mx b (mx a f)) f := fun n hn => by
  have e := col_col h (f (4 * (n / 4) + (n % 4 + 0) % 4)) (f (4 * (n / 4) + (n % 4 + 1) % 4)) (f (4 * (n / 4) + (n % 4 + 2) % 4)) (f (4 * (n / 4) + (n % 4 + 3) % 4)) (hf _) (hf _) (hf _) (hf _)
  rw [mx_col b, mx_col a, mx_col a, mx_col a, mx_col a]
  have i (p : Nat) : (4 * (n / 4) + (n % 4 + p) % 4) / 4 = n / 4 := by omega
  have r (p q : Nat) : ((4 * (n / 4) + (n % 4 + p) % 4) % 4 + q) % 4 = (n % 4 + (p + q)) % 4 := by omega
  have k4 : (n % 4 + 4) % 4 = (n % 4 + 0) % 4 := by omega
  have k5 : (n % 4 + 5) % 4 = (n % 4 + 1) % 4 := by omega
  have k6 : (n % 4 + 6) % 4 = (n % 4 + 2) % 4 := by omega
  simp only [i, r, Nat.reduceAdd, k4, k5, k6]
  refine e.trans ?_
  congr 1
  omega

/-! ### Whole blocks -/
/-- A state after so many rounds. -/
def doS (S W : Nat → Nat) (r : Nat) (b : Nat → Nat) : Nat → Nat → Nat
  | 0 => fun j => b j ^^^ W j
  | k + 1 => fun j => (if k + 1 < r then mx cF (trn 1 fun j => S (doS S W r b k j)) else trn 1 fun j => S (doS S W r b k j)) j ^^^ W (16 * (k + 1) + j)
/-- A state on its way back, after so many rounds. -/
def unS (B W : Nat → Nat) (r : Nat) (b : Nat → Nat) : Nat → Nat → Nat
  | 0 => b
  | k + 1 => fun j => B (trn 3 (if r - k < r then mx cB (fun j => unS B W r b k j ^^^ W (16 * (r - k) + j)) else fun j => unS B W r b k j ^^^ W (16 * (r - k) + j)) j)
theorem x8 {p q : Nat} (hp : p < 256) (hq : q < 256) : p ^^^ q < 256 := Nat.xor_lt_two_pow (n := 8) hp hq
theorem doS_lt {S W b : Nat → Nat} (r : Nat) (hS : ∀ j, S j < 256) (hW : ∀ j, W j < 256) (hb : ∀ j, b j < 256) : ∀ k j, doS S W r b k j < 256
  | 0, j => x8 (hb j) (hW j)
  | k + 1, j => by
    rw [doS]
    refine x8 ?_ (hW _)
    split
    · exact mx_lt _ _ (fun _ => hS _) _
    · exact hS _
theorem unS_lt {B W b : Nat → Nat} (r : Nat) (hB : ∀ j, B j < 256) (hb : ∀ j, b j < 256) : ∀ k j, unS B W r b k j < 256
  | 0, j => hb j
  | k + 1, j => hB _
theorem Same.refl (f : Nat → Nat) : Same f f := fun _ _ => rfl
theorem Same.trans {f g h : Nat → Nat} (a : Same f g) (b : Same g h) : Same f h := fun j hj => (a j hj).trans (b j hj)
theorem Same.map {f g : Nat → Nat} (h : Same f g) (T : Nat → Nat) : Same (fun j => T (f j)) fun j => T (g j) := fun j hj => congrArg T (h j hj)
theorem Same.xor {f g : Nat → Nat} (h : Same f g) (W : Nat → Nat) : Same (fun j => f j ^^^ W j) fun j => g j ^^^ W j := fun j hj => by show f j ^^^ W j = g j ^^^ W j; rw [h j hj]
theorem xor_xor (f W : Nat → Nat) : (fun j => f j ^^^ W j ^^^ W j) = f := by
  funext j
  rw [Nat.xor_assoc, Nat.xor_self, Nat.xor_zero]
section
variable {S B W b : Nat → Nat} {r : Nat} (hS : ∀ j, S j < 256) (hB : ∀ j, B j < 256) (hW : ∀ j, W j < 256) (hb : ∀ j, b j < 256)
include hS hW hb in
/-- On the way back the states are those of the way forth. -/
theorem un_do (hBS : ∀ x, x < 256 → B (S x) = x) : ∀ k, k ≤ r → Same (unS B W r (doS S W r b r) k) (doS S W r b (r - k))
  | 0, _ => Same.refl _
  | k + 1, h => by
    have h1 := un_do hBS k (by omega)
    obtain ⟨i, hi⟩ : ∃ i, r - k = i + 1 := ⟨r - k - 1, by omega⟩
    rw [hi] at h1
    rw [show r - (k + 1) = i by omega, unS, hi]
    have h2 := h1.xor fun j => W (16 * (i + 1) + j)
    have hc : ∀ j, doS S W r b i j < 256 := doS_lt r hS hW hb i
    have e : (fun j => doS S W r b (i + 1) j ^^^ W (16 * (i + 1) + j)) = (if i + 1 < r then mx cF (trn 1 fun j => S (doS S W r b i j)) else trn 1 fun j => S (doS S W r b i j)) := by
      rw [doS]
      exact xor_xor _ fun j => W (16 * (i + 1) + j)
    rw [e] at h2
    have h3 : Same (if i + 1 < r then mx cB (fun j => unS B W r (doS S W r b r) k j ^^^ W (16 * (i + 1) + j)) else fun j => unS B W r (doS S W r b r) k j ^^^ W (16 * (i + 1) + j)) (trn 1 fun j => S (doS S W r b i j)) := by
      by_cases hir : i + 1 < r
      · rw [if_pos hir] at h2 ⊢
        exact (h2.mx cB).trans (mx_mx invFB _ fun _ => hS _)
      · rw [if_neg hir] at h2 ⊢
        exact h2
    refine (((h3.trn 3).trans (trn31 _)).map B).trans fun j hj => hBS _ (hc j)
include hB hW hb in
/-- And the other way round. -/
theorem do_un (hSB : ∀ x, x < 256 → S (B x) = x) : ∀ k, k ≤ r → Same (doS S W r (fun j => unS B W r b r j ^^^ W j) k) (unS B W r b (r - k))
  | 0, _ => by
    rw [doS, xor_xor]
    exact Same.refl _
  | k + 1, h => by
    have h1 := do_un hSB k (by omega)
    obtain ⟨i, hi⟩ : ∃ i, r - k = i + 1 := ⟨r - k - 1, by omega⟩
    have hri : r - i = k + 1 := by omega
    rw [hi, unS, hri] at h1
    rw [show r - (k + 1) = i by omega, doS]
    generalize hF : doS S W r (fun j => unS B W r b r j ^^^ W j) k = F at *
    have hu : ∀ j, unS B W r b i j ^^^ W (16 * (k + 1) + j) < 256 := fun j => x8 (unS_lt r hB hb i j) (hW _)
    have h2 := h1.map S
    have hm : ∀ j, trn 3 (if k + 1 < r then mx cB (fun j => unS B W r b i j ^^^ W (16 * (k + 1) + j)) else fun j => unS B W r b i j ^^^ W (16 * (k + 1) + j)) j < 256 := fun j => by
      show (if k + 1 < r then mx cB (fun j => unS B W r b i j ^^^ W (16 * (k + 1) + j)) else fun j => unS B W r b i j ^^^ W (16 * (k + 1) + j)) _ < 256
      split
      · exact mx_lt _ _ hu _
      · exact hu _
    have h3 : Same (trn 1 fun j => S (F j)) (if k + 1 < r then mx cB (fun j => unS B W r b i j ^^^ W (16 * (k + 1) + j)) else fun j => unS B W r b i j ^^^ W (16 * (k + 1) + j)) :=
      ((h2.trans fun j _ => hSB _ (hm j)).trn 1).trans (trn13 _)
    have h4 : Same (if k + 1 < r then mx cF (trn 1 fun j => S (F j)) else trn 1 fun j => S (F j)) fun j => unS B W r b i j ^^^ W (16 * (k + 1) + j) := by
      by_cases hir : k + 1 < r
      · rw [if_pos hir] at h3 ⊢
        exact (h3.mx cF).trans (mx_mx invBF _ hu)
      · rw [if_neg hir] at h3 ⊢
        exact h3
    refine (h4.xor fun j => W (16 * (k + 1) + j)).trans ?_
    rw [xor_xor]
    exact Same.refl _
end
/-- What Do and Undo make of a block. -/
def enc (S W : Nat → Nat) (r : Nat) (b : Nat → Nat) : Nat → Nat := doS S W r b r
def dec (B W : Nat → Nat) (r : Nat) (b : Nat → Nat) : Nat → Nat := fun j => unS B W r b r j ^^^ W j
theorem unS_same {B W b c : Nat → Nat} {r : Nat} (h : Same b c) : ∀ k, Same (unS B W r b k) (unS B W r c k)
  | 0 => h
  | k + 1 => by
    have h2 := (unS_same (B := B) (W := W) (r := r) h k).xor fun j => W (16 * (r - k) + j)
    rw [unS, unS]
    refine Same.map (Same.trn ?_ 3) B
    split
    · exact h2.mx cB
    · exact h2
theorem doS_same {S W b c : Nat → Nat} {r : Nat} (h : Same b c) : ∀ k, Same (doS S W r b k) (doS S W r c k)
  | 0 => h.xor W
  | k + 1 => by
    have h2 := ((doS_same (S := S) (W := W) (r := r) h k).map S).trn 1
    rw [doS, doS]
    refine Same.xor ?_ fun j => W (16 * (k + 1) + j)
    split
    · exact h2.mx cF
    · exact h2
theorem dec_enc {S B W b : Nat → Nat} (r : Nat) (hS : ∀ j, S j < 256) (hW : ∀ j, W j < 256) (hb : ∀ j, b j < 256) (hBS : ∀ x, x < 256 → B (S x) = x) : Same (dec B W r (enc S W r b)) b := fun j hj => by
  have h := un_do (r := r) hS hW hb hBS r (Nat.le_refl _) j hj
  rw [Nat.sub_self] at h
  show unS B W r (doS S W r b r) r j ^^^ W j = b j
  rw [h, doS]
  show b j ^^^ W j ^^^ W j = b j
  rw [Nat.xor_assoc, Nat.xor_self, Nat.xor_zero]
theorem enc_dec {S B W b : Nat → Nat} (r : Nat) (hB : ∀ j, B j < 256) (hW : ∀ j, W j < 256) (hb : ∀ j, b j < 256) (hSB : ∀ x, x < 256 → S (B x) = x) : Same (enc S W r (dec B W r b)) b := fun j hj => by
  have h := do_un (r := r) hB hW hb hSB r (Nat.le_refl _) j hj
  rw [Nat.sub_self] at h
  exact h
end Go.Proofs.Ytlhakobfjokabaa
