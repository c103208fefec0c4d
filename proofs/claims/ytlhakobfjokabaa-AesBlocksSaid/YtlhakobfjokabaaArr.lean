/-
  Arrays of bytes in memory, each known as a whole block; what a call may change.
-/
import Derived.Test.YtlhakobfjokabaaSub
import Derived.Deep.MidRow
import Derived.Deep.RegionHeld3
import Derived.Deep.DeepCutAuto
import Derived.Deep.CutBlock
import Derived.Deep.DeepFit
import Derived.RegionTactic
import Derived.ChangeAlike
import Derived.LoopTactic
import Derived.Below
namespace Go.Proofs.Ytlhakobfjokabaa
open Go.RowKit

/-- What is not in S is as it was. -/
structure Upd (S : Nat → Prop) (w w' : World) : Prop where
  os : w'.os = w.os
  tape : w'.tape = w.tape
  output : w'.output = w.output
  size : w.heap.size ≤ w'.heap.size
  block : ∀ k, k < w.heap.size → ¬ S k → w'.heap[k]? = w.heap[k]?

theorem Upd.refl (S : Nat → Prop) (w : World) : Upd S w w := ⟨rfl, rfl, rfl, Nat.le_refl _, fun _ _ _ => rfl⟩
theorem Upd.trans {S : Nat → Prop} {a b c : World} (h : Upd S a b) (k : Upd S b c) : Upd S a c :=
  ⟨k.os.trans h.os, k.tape.trans h.tape, k.output.trans h.output, Nat.le_trans h.size k.size, fun i hi hs => (k.block i (Nat.lt_of_lt_of_le hi h.size) hs).trans (h.block i hi hs)⟩
theorem Upd.mono {S T : Nat → Prop} {w w' : World} (h : Upd S w w') (hs : ∀ k, k < w.heap.size → S k → T k) : Upd T w w' :=
  ⟨h.os, h.tape, h.output, h.size, fun k hk hn => h.block k hk fun hS => hn (hs k hk hS)⟩
theorem Upd.below {S : Nat → Prop} {w w' : World} {B : Nat} (h : Upd S w w') (hB : B ≤ w.heap.size) (hs : ∀ k, S k → B ≤ k) : Below B w w' :=
  ⟨h.os, h.tape, h.output, h.size, fun k hk => h.block k (Nat.lt_of_lt_of_le hk hB) fun hS => by have := hs k hS; omega⟩
theorem upd_of_below {w w' : World} {S : Nat → Prop} (h : Below w.heap.size w w') : Upd S w w' := ⟨h.os, h.tape, h.output, h.size, fun k hk _ => h.block k hk⟩
/-- What is new may change at will. -/
theorem Upd.above {S : Nat → Prop} {w w2 w3 : World} (h : Upd S w w2) (k : Upd (fun k => w.heap.size ≤ k) w2 w3) : Upd S w w3 :=
  ⟨k.os.trans h.os, k.tape.trans h.tape, k.output.trans h.output, Nat.le_trans h.size k.size, fun i hi hs => (k.block i (Nat.lt_of_lt_of_le hi h.size) (by omega)).trans (h.block i hi hs)⟩
theorem heap_lt {w : World} {k : Nat} {o : Obj} (h : w.heap[k]? = some o) : k < w.heap.size := by
  rcases Nat.lt_or_ge k w.heap.size with g | g
  · exact g
  · rw [Array.getElem?_eq_none g] at h
    cases h
theorem cell_lt {w : World} {p : Addr} {v : Value} (h : w.cell? p = some v) : p.block < w.heap.size := by
  unfold World.cell? at h
  split at h
  · rename_i hb
    exact heap_lt hb
  · cases h
theorem Upd.cell {S : Nat → Prop} {w w' : World} (hu : Upd S w w') {p : Addr} {v : Value} (h : w.cell? p = some v) (hn : ¬ S p.block) : w'.cell? p = some v := by
  rw [← h]
  exact World.cell?_of_block (w := w) (hu.block p.block (cell_lt h) hn)
theorem heap_new (w : World) (o : Obj) : (w.alloc o).heap[w.heap.size]? = some o := by
  show (w.heap.push o)[w.heap.size]? = _
  simp
theorem upd_alloc (S : Nat → Prop) (w : World) (o : Obj) : Upd S w (w.alloc o) := upd_of_below ((Below.refl _ _).alloc (Nat.le_refl _) _)
theorem upd_drew (S : Nat → Prop) (w : World) : Upd S w w.drew := ⟨rfl, rfl, rfl, Nat.le_refl _, fun _ _ _ => rfl⟩
theorem upd_drewN (S : Nat → Prop) (w : World) (n : Nat) : Upd S w (w.drewN n) := ⟨rfl, rfl, rfl, Nat.le_refl _, fun _ _ _ => rfl⟩
theorem upd_setCell (w : World) (p : Addr) (v : Value) : Upd (· = p.block) w (w.setCell p v) := ⟨rfl, rfl, rfl, by simp [World.setCell], fun k _ hn => Below.heap_setCell _ _ _ _ hn⟩

/-! ### Arrays -/
/-- A byte. -/
def u8 (n : Nat) : Value := .int .u8 n
/-- n bytes. -/
def arr (n : Nat) (f : Nat → Nat) : Array Value := ((List.range n).map fun j => u8 (f j)).toArray
theorem arr_size (n : Nat) (f : Nat → Nat) : (arr n f).size = n := by simp [arr]
theorem arr_at (n : Nat) (f : Nat → Nat) (j : Nat) (h : j < n) : (arr n f)[j]? = some (.int .u8 (f j)) := by simp [arr, u8, h]
theorem arr_congr {n : Nat} {f g : Nat → Nat} (h : ∀ j, j < n → f j = g j) : arr n f = arr n g := by
  unfold arr
  congr 1
  exact List.map_congr_left fun j hj => by rw [h j (by simpa using hj)]
/-- One turned. -/
def put (f : Nat → Nat) (i x : Nat) : Nat → Nat := fun j => if j = i then x else f j
theorem arr_set (n : Nat) (f : Nat → Nat) (i x : Nat) : (arr n f).setIfInBounds i (.int .u8 x) = arr n (put f i x) := by
  apply Array.ext_getElem?
  intro j
  rw [Array.getElem?_setIfInBounds, arr_size]
  by_cases hj : j < n
  · rw [arr_at n f j hj, arr_at n (put f i x) j hj]
    unfold put
    by_cases h : i = j
    · subst h
      simp [hj]
    · rw [if_neg h, if_neg (fun e : j = i => h e.symm)]
  · rw [Array.getElem?_eq_none (by rw [arr_size]; omega), Array.getElem?_eq_none (by rw [arr_size]; omega)]
    by_cases h : i = j
    · subst h
      simp [hj]
    · simp [h]
/-- A block that is known whole. -/
def Blk (w : World) (b : Nat) (t : TypeId) (n : Nat) (f : Nat → Nat) : Prop := w.heap[b]? = some (.cells (arr n f) t (0, 0))
section
variable {w w' : World} {b : Nat} {t : TypeId} {n : Nat} {f g : Nat → Nat}
theorem Blk.lt (h : Blk w b t n f) : b < w.heap.size := heap_lt h
theorem Blk.cell (h : Blk w b t n f) {j : Nat} (hj : j < n) : w.cell? ⟨b, j, none⟩ = some (.int .u8 (f j)) := by
  rw [cell_of_row w b j _ t (0, 0) h, arr_at n f j hj]
theorem Blk.free (h : Blk w b t n f) (j : Nat) : w.frozen? ⟨b, j, none⟩ = false := frozen_of_row w b j _ t h
theorem Blk.new (w : World) (t : TypeId) (n : Nat) (f : Nat → Nat) : Blk (w.alloc (.cells (arr n f) t)) w.heap.size t n f := heap_new w _
theorem Blk.keep (h : Blk w b t n f) {S : Nat → Prop} (hu : Upd S w w') (hn : ¬ S b) : Blk w' b t n f := by
  unfold Blk at *
  rw [hu.block b (heap_lt h) hn]
  exact h
theorem Blk.alloc (h : Blk w b t n f) (o : Obj) : Blk (w.alloc o) b t n f := h.keep (upd_alloc (fun _ => False) _ _) (fun h => h)
theorem Blk.drew (h : Blk w b t n f) : Blk w.drew b t n f := h
theorem Blk.congr (h : Blk w b t n f) (e : ∀ j, j < n → f j = g j) : Blk w b t n g := by
  unfold Blk at *
  rw [h, arr_congr e]
theorem Blk.set (h : Blk w b t n f) (j x : Nat) : Blk (w.setCell ⟨b, j, none⟩ (.int .u8 x)) b t n (put f j x) := by
  unfold Blk
  rw [heap_setCell_same w b j _ t _ h, arr_set]
theorem Blk.other (h : Blk w b t n f) {a : Addr} (hn : b ≠ a.block) (v : Value) : Blk (w.setCell a v) b t n f := by
  unfold Blk at *
  rw [heap_setCell_other w a b v hn]
  exact h
theorem Blk.range (h : Blk w b t n f) (o m : Nat) (hm : o + m ≤ n) : w.rangeAt b o (arr m fun j => f (o + j)).toList := fun j v hv => by
  have hj : j < m := by have := (List.getElem?_eq_some_iff.1 hv).1; simpa [arr_size] using this
  rw [h.cell (show o + j < n by omega)]
  rw [Array.getElem?_toList, arr_at _ _ _ hj] at hv
  exact hv
theorem Blk.there (h : Blk w b t n f) : w.there b 0 n := fun j hj => by
  have := h.cell hj
  rw [Nat.zero_add]
  exact ⟨by rw [this]; rfl, h.free j⟩
theorem Blk.all (h : Blk w b t n f) : w.rangeAt b 0 (arr n f).toList := by
  have := h.range 0 n (by omega)
  simpa using this
theorem Blk.setRow (h : Blk w b t n f) (g : Nat → Nat) : Blk (w.setRow b (arr n g)) b t n g := setRow_heap w b _ _ t _ h
theorem upd_setRow (w : World) (b : Nat) (cs : Array Value) : Upd (· = b) w (w.setRow b cs) := ⟨rfl, rfl, rfl, by simp, fun k _ hn => setRow_other w b k cs hn⟩
theorem arr_one (n : Nat) (f : Nat → Nat) : (arr n f).all (·.oneCell') = true := by
  rw [Array.all_eq_true_iff_forall_mem]
  intro v hv
  simp only [arr, List.mem_toArray, List.mem_map, List.mem_range] at hv
  obtain ⟨j, _, rfl⟩ := hv
  rfl
theorem size16 (ty : TypeId) (h : (Try.prog.info? ty).map (·.size) = some n) (f : Nat → Nat) : (Try.prog.info? ty).map (·.size) = some (arr n f).size := by rw [arr_size]; exact h
end
theorem below_drew {B : Nat} {w w' : World} (h : Below B w w') : Below B w w'.drew := ⟨h.os, h.tape, h.output, h.size, h.block⟩
end Go.Proofs.Ytlhakobfjokabaa
