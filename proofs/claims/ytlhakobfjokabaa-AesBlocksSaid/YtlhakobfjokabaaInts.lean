/-
  Arrays of numbers in memory, and the reference's table.
-/
import Derived.Test.YtlhakobfjokabaaBlock
import Derived.Test.YtlhakobfjokabaaSubs
namespace Go.Proofs.Ytlhakobfjokabaa
open Go.RowKit

/-! ### Arrays of numbers -/
/-- A number. -/
def i64v (n : Nat) : Value := .int .i64 n
/-- n bytes. -/
def ints (n : Nat) (f : Nat → Nat) : Array Value := ((List.range n).map fun j => i64v (f j)).toArray
theorem ints_size (n : Nat) (f : Nat → Nat) : (ints n f).size = n := by simp [ints]
theorem ints_at (n : Nat) (f : Nat → Nat) (j : Nat) (h : j < n) : (ints n f)[j]? = some (.int .i64 (f j)) := by simp [ints, i64v, h]
theorem ints_congr {n : Nat} {f g : Nat → Nat} (h : ∀ j, j < n → f j = g j) : ints n f = ints n g := by
  unfold ints
  congr 1
  exact List.map_congr_left fun j hj => by rw [h j (by simpa using hj)]
theorem ints_set (n : Nat) (f : Nat → Nat) (i x : Nat) : (ints n f).setIfInBounds i (.int .i64 x) = ints n (put f i x) := by
  apply Array.ext_getElem?
  intro j
  rw [Array.getElem?_setIfInBounds, ints_size]
  by_cases hj : j < n
  · rw [ints_at n f j hj, ints_at n (put f i x) j hj]
    unfold put
    by_cases h : i = j
    · subst h
      simp [hj]
    · rw [if_neg h, if_neg (fun e : j = i => h e.symm)]
  · rw [Array.getElem?_eq_none (by rw [ints_size]; omega), Array.getElem?_eq_none (by rw [ints_size]; omega)]
    by_cases h : i = j
    · subst h
      simp [hj]
    · simp [h]
/-- A block that is known whole. -/
def Bli (w : World) (b : Nat) (t : TypeId) (n : Nat) (f : Nat → Nat) : Prop := w.heap[b]? = some (.cells (ints n f) t (0, 0))
section
variable {w w' : World} {b : Nat} {t : TypeId} {n : Nat} {f g : Nat → Nat}
theorem Bli.lt (h : Bli w b t n f) : b < w.heap.size := heap_lt h
theorem Bli.cell (h : Bli w b t n f) {j : Nat} (hj : j < n) : w.cell? ⟨b, j, none⟩ = some (.int .i64 (f j)) := by
  rw [cell_of_row w b j _ t (0, 0) h, ints_at n f j hj]
theorem Bli.free (h : Bli w b t n f) (j : Nat) : w.frozen? ⟨b, j, none⟩ = false := frozen_of_row w b j _ t h
theorem Bli.new (w : World) (t : TypeId) (n : Nat) (f : Nat → Nat) : Bli (w.alloc (.cells (ints n f) t)) w.heap.size t n f := heap_new w _
theorem Bli.keep (h : Bli w b t n f) {S : Nat → Prop} (hu : Upd S w w') (hn : ¬ S b) : Bli w' b t n f := by
  unfold Bli at *
  rw [hu.block b (heap_lt h) hn]
  exact h
theorem Bli.alloc (h : Bli w b t n f) (o : Obj) : Bli (w.alloc o) b t n f := h.keep (upd_alloc (fun _ => False) _ _) (fun h => h)
theorem Bli.drew (h : Bli w b t n f) : Bli w.drew b t n f := h
theorem Bli.congr (h : Bli w b t n f) (e : ∀ j, j < n → f j = g j) : Bli w b t n g := by
  unfold Bli at *
  rw [h, ints_congr e]
theorem Bli.set (h : Bli w b t n f) (j x : Nat) : Bli (w.setCell ⟨b, j, none⟩ (.int .i64 x)) b t n (put f j x) := by
  unfold Bli
  rw [heap_setCell_same w b j _ t _ h, ints_set]
theorem Bli.other (h : Bli w b t n f) {a : Addr} (hn : b ≠ a.block) (v : Value) : Bli (w.setCell a v) b t n f := by
  unfold Bli at *
  rw [heap_setCell_other w a b v hn]
  exact h
theorem Bli.range (h : Bli w b t n f) (o m : Nat) (hm : o + m ≤ n) : w.rangeAt b o (ints m fun j => f (o + j)).toList := fun j v hv => by
  have hj : j < m := by have := (List.getElem?_eq_some_iff.1 hv).1; simpa [ints_size] using this
  rw [h.cell (show o + j < n by omega)]
  rw [Array.getElem?_toList, ints_at _ _ _ hj] at hv
  exact hv
theorem Bli.there (h : Bli w b t n f) : w.there b 0 n := fun j hj => by
  have := h.cell hj
  rw [Nat.zero_add]
  exact ⟨by rw [this]; rfl, h.free j⟩
theorem Bli.all (h : Bli w b t n f) : w.rangeAt b 0 (ints n f).toList := by
  have := h.range 0 n (by omega)
  simpa using this
theorem Bli.setRow (h : Bli w b t n f) (g : Nat → Nat) : Bli (w.setRow b (ints n g)) b t n g := setRow_heap w b _ _ t _ h
theorem ints_one (n : Nat) (f : Nat → Nat) : (ints n f).all (·.oneCell') = true := by
  rw [Array.all_eq_true_iff_forall_mem]
  intro v hv
  simp only [ints, List.mem_toArray, List.mem_map, List.mem_range] at hv
  obtain ⟨j, _, rfl⟩ := hv
  rfl
theorem sizeI (ty : TypeId) (h : (Try.prog.info? ty).map (·.size) = some n) (f : Nat → Nat) : (Try.prog.info? ty).map (·.size) = some (ints n f).size := by rw [ints_size]; exact h
end

theorem i36 : (Try.prog.info? 36).map (·.size) = some 256 := by kernel_rfl
theorem zero36 (w : World) : (zeroValue 36).run Try.prog w = .ok (.agg (ints 256 fun _ => 0)) w := by kernel_rfl
/-- What Table has in memory. -/
structure TblR (w wr : World) (g : Nat → Nat) : Prop where
  c : Bli wr w.heap.size 36 256 fun _ => 0
  t : Bli wr (w.heap.size + 1) 36 256 g
  u : Below w.heap.size w wr
theorem TblR.start (w : World) : TblR w ((w.alloc (.cells (ints 256 fun _ => 0) 36)).alloc (.cells (ints 256 fun _ => 0) 36)) fun _ => 0 := by
  have z1 : (w.alloc (.cells (ints 256 fun _ => 0) 36)).heap.size = w.heap.size + 1 := World.size_alloc _ _
  have h1 := Bli.new (w.alloc (.cells (ints 256 fun _ => 0) 36)) 36 256 fun _ => 0
  rw [z1] at h1
  exact ⟨(Bli.new w 36 256 fun _ => 0).alloc _, h1, ((Below.refl _ _).alloc (Nat.le_refl _) _).alloc (by rw [z1]; omega) _⟩
theorem TblR.put {w wr : World} {g g' : Nat → Nat} (h : TblR w wr g) {o x : Nat} (hg : Ytlhakobfjokabaa.put g o x = g') : TblR w (wr.setCell ⟨w.heap.size + 1, o, none⟩ (.int .i64 x)) g' := by
  subst hg
  exact ⟨h.c.other (by simp) _, h.t.set o x, h.u.setCell (p := ⟨w.heap.size + 1, o, none⟩) (by simp) _⟩

set_option maxHeartbeats 1000000 in
set_option maxRecDepth 20000 in
theorem refTable_any (w : World) :
    Calls Try.prog 15 #[] w fun e w' => e = .returned (.agg (ints 256 (subT 255))) ∧ Below w.heap.size w w' := by
  have hz := zero36
  have HS := Lib.hid (TblR.start w)
  have HF := Lib.hid (fun n w => refSub_any n w)
  go_enter Try.func15, Try.ntmps15
  go_upto_region 2 with (fail)
  clear hz
  generalize World.alloc (World.alloc w _) _ = w1 at *
  go_wp2_with fail
  go_loopw [2] (fun i wr => ∃ n : Nat, n ≤ 256 ∧ i = .int .i64 n ∧ TblR w wr (upTo (subT 255) (fun _ => 0) n)) (fun i _ => 256 - (intOf i).toNat)
  case atStart => exact ⟨0, by omega, rfl, by rw [upTo_zero]; exact HS.out⟩
  case round =>
    obtain ⟨n, hn, rfl, hr⟩ := hrel
    have HR := Lib.hid hr
    clear HS
    by_cases hn4 : n < 256
    · have hn0 : (n : Int) < 256 := by omega
      have HB := Lib.hid (subT_sub n hn4)
      have hf := hr.t.free n
      have hc := hr.t.cell (j := n) (by omega)
      generalize upTo (subT 255) (fun _ => 0) n n = old at hc
      clear hr
      go_wp2_with fail
      refine (HF.out n _ hn4).mono ?_
      rintro e w2 ⟨rfl, rfl⟩
      rw [← HB.out]
      go_wp2_with fail
      go_roundw
      case rel => exact ⟨n + 1, by omega, by go_num, HR.out.put (upTo_put _ _ _)⟩
      case measure => simp [intOf]; omega
    · have hn9 : n = 256 := by omega
      subst hn9
      clear hr
      go_upto_region 6 with (fail)
      go_wp2_with (first
        | (refine wpList_load_row rfl 36 (.tmp 1) rfl (w.heap.size + 1) rfl 36 (ints 256 (upTo (subT 255) (fun _ => 0) 256)) (0, 0) _ HR.out.t Try.underlying36 rfl (sizeI 36 i36 _) ?_)
        | (refine wpList_store_row rfl 36 (.tmp 0) (.tmp 11) rfl w.heap.size (ints 256 (upTo (subT 255) (fun _ => 0) 256)) rfl rfl 36 _ HR.out.c (sizeI 36 i36 _) (by rw [ints_size, ints_size]) (ints_one _ _) ?_))
      refine bodyPost_ret (results_cell_row (g := w.heap.size) rfl _ _ 36 (ints 256 (upTo (subT 255) (fun _ => 0) 256)) (0, 0) _ rfl (HR.out.c.setRow _) Try.underlying36 rfl (sizeI 36 i36 _)) rfl ⟨?_, (HR.out.u.trans ((upd_setRow _ w.heap.size _).below HR.out.u.size (by omega)))⟩
      rw [ints_congr (upTo_all (subT 255) (fun _ => 0) 256)]
end Go.Proofs.Ytlhakobfjokabaa
