/-
  What the reference's Words has in memory.
-/
import Derived.Test.YtlhakobfjokabaaInts
import Derived.Test.YtlhakobfjokabaaExpand
namespace Go.Proofs.Ytlhakobfjokabaa
open Go.RowKit

theorem info3 : (Try.prog.info? 3).map (fun i => (i.zero, i.size, i.bytes)) = some (some (.int .i64 0), 1, 8) := by kernel_rfl
theorem i64s : (Try.prog.info? 64).map (·.size) = some 4 := by kernel_rfl
theorem ints_app (n m : Nat) (f : Nat → Nat) : (ints n f).toList ++ (ints m fun j => f (n + j)).toList = (ints (n + m) f).toList := by
  simp only [ints, List.toList_toArray]
  rw [List.range_add, List.map_append, List.map_map]
  rfl
theorem ints_snoc (n : Nat) (f : Nat → Nat) (x : Nat) (h : f n = x) : (ints n f).toList ++ [Value.int .i64 x] = (ints (n + 1) f).toList := by
  rw [← ints_app, ← h]
  rfl
theorem ints_list_one (x : Nat) : ∀ u ∈ [Value.int .i64 x], u.oneCell' = true := fun u hu => by
  rw [List.mem_singleton] at hu
  subst hu
  rfl
theorem ex_first (T key : Nat → Nat) (n : Nat) : ∀ i, i ≤ n → (ex T key n i).1 = 1 ∧ ∀ j, j < 4 * i → (ex T key n i).2 j = key j
  | 0, _ => ⟨rfl, fun j h => absurd h (by omega)⟩
  | i + 1, h => by
    obtain ⟨h1, h2⟩ := ex_first T key n i (by omega)
    rw [ex, if_pos (by omega)]
    refine ⟨h1, fun j hj => ?_⟩
    show ext (ex T key n i).2 i (fun k => key (4 * i + k)) j = key j
    unfold ext
    split
    · show key (4 * i + j % 4) = key j
      congr 1; omega
    · exact h2 j (by omega)
/-- What Words has in memory. -/
structure WdsR (w wr : World) (T : Nat → Nat) (v : Value) (n : Nat) (g : Nat → Nat) : Prop where
  t : Bli wr w.heap.size 36 256 T
  o : wr.ownsRow (w.heap.size + 1) 3 1 v n (ints n g).toList
  u : Below w.heap.size w wr
theorem WdsR.start (w : World) (T g : Nat → Nat) : WdsR w (w.alloc (.cells (ints 256 T) 36)) T (.slice none 0 0) 0 g :=
  ⟨Bli.new w 36 256 T, World.ownsRow_nil _ _ _ _, (Below.refl _ _).alloc (Nat.le_refl _) _⟩
theorem WdsR.upd {w w5 w6 : World} {T : Nat → Nat} {v : Value} {n : Nat} {g : Nat → Nat} (h : WdsR w w5 T v n g) {S : Nat → Prop} (hu : Upd S w5 w6) (hS : ∀ k, k < w5.heap.size → S k → w.heap.size < k ∧ v.ownBlock ≠ some k) : WdsR w w6 T v n g := by
  refine ⟨h.t.keep hu (fun e => ?_), ?_, h.u.trans ⟨hu.os, hu.tape, hu.output, hu.size, fun k hk => hu.block k (Nat.lt_of_lt_of_le hk h.u.size) (fun e => ?_)⟩⟩
  · have := (hS _ h.t.lt e).1; omega
  · refine owns_upd2 h.o hu (fun g e hs => ?_)
    exact (hS g (h.o.lt g e).2 hs).2 e
  · have := (hS k (Nat.lt_of_lt_of_le hk h.u.size) e).1; omega
theorem WdsR.next {w w5 w6 : World} {T : Nat → Nat} {v v' : Value} {n : Nat} {g g' : Nat → Nat} {xs : List Value} (h : WdsR w w5 T v n g) (hn : w6.ownsRow (w.heap.size + 1) 3 1 v' (n + 1) xs) (hx : xs = (ints (n + 1) g').toList) (hg : w5.grownBy w6 v.ownBlock) : WdsR w w6 T v' (n + 1) g' := by
  subst hx
  have hug : Upd (fun k => some k = v.ownBlock) w5 w6 := ⟨hg.os, hg.tape, hg.output, hg.size, hg.block⟩
  refine ⟨h.t.keep hug (fun e => ?_), hn, h.u.trans (hug.below h.u.size fun k e => ?_)⟩
  · have := (h.o.lt _ e.symm).1; omega
  · have := (h.o.lt _ e.symm).1; omega
theorem ints_cell {w : World} {base b n cap : Nat} {g : Nat → Nat} (h : w.ownsRow base 3 1 (.slice (some ⟨b, 0, none⟩) n cap) n (ints n g).toList) (j : Nat) (hj : j < n) : w.cell? ⟨b, j, none⟩ = some (.int .i64 (g j)) := by
  have := h.cells (g := b) rfl j (.int .i64 (g j)) (by rw [Array.getElem?_toList, ints_at _ _ _ hj])
  rw [Addr.add_mid, Nat.zero_add] at this
  exact this
/-- One cell, new. -/
theorem one_cell (w : World) (x : Nat) (ty : TypeId) : ∀ j u, [Value.int .i64 x][j]? = some u → (w.alloc (.cells #[.int .i64 x] ty)).cell? ((⟨w.heap.size, 0, none⟩ : Addr).add j) = some u := fun j u hj => by
  have hj0 : j = 0 := by
    rcases Nat.eq_zero_or_pos j with h | h
    · exact h
    · rw [List.getElem?_eq_none (by simp; omega)] at hj; cases hj
  subst hj0
  rw [Addr.add_mid]
  rw [cell_of_row _ _ _ _ ty (0, 0) (heap_new w (.cells #[.int .i64 x] ty))]
  exact hj

end Go.Proofs.Ytlhakobfjokabaa
