/-
  The contract of write.
-/
import Derived.Test.YtlhakobfjokabaaRead
import Derived.Laws.AppendOwn
namespace Go.Proofs.Ytlhakobfjokabaa
open Go.RowKit

theorem arr_extract (n m o : Nat) (f : Nat → Nat) (h : o + m ≤ n) : (arr n f).extract o (o + m) = arr m fun j => f (o + j) := by
  apply Array.ext_getElem?
  intro j
  rw [Array.getElem?_extract, arr_size]
  by_cases hj : j < m
  · rw [if_pos (by omega), arr_at n f _ (by omega), arr_at m _ j hj]
  · rw [if_neg (by omega), Array.getElem?_eq_none (by rw [arr_size]; omega)]
theorem arr_app (n m : Nat) (f : Nat → Nat) : (arr n f).toList ++ (arr m fun j => f (n + j)).toList = (arr (n + m) f).toList := by
  simp only [arr, List.toList_toArray]
  rw [List.range_add, List.map_append, List.map_map]
  rfl
theorem agg53 (w : World) : (isAgg 53).run Try.prog w = .ok true w := by kernel_rfl
theorem siz53 (w : World) : (sizeOf 53).run Try.prog w = .ok 4 w := by kernel_rfl
theorem run_index_row (f : Nat → Nat) (k : Nat) (hk : k < 4) (w : World) :
    (Instr.index 55 (.agg (arr 16 f)) (.int .i64 k)).run Try.prog w = .ok (.agg (arr 4 fun j => f (4 * k + j))) w := by
  have h1 := arr_extract 16 4 (k * 4) f (by omega)
  rw [Nat.mul_comm k 4] at h1
  rw [Nat.mul_comm 4 k] at h1 ⊢
  simp [Instr.index, run_underlying Try.underlying55, asIntOf, go_sem, agg53, siz53, hk, h1]
theorem info5 : (Try.prog.info? 5).map (fun i => (i.zero, i.size, i.bytes)) = some (some (.int .u8 0), 1, 1) := by kernel_rfl
/-- The text of a state. -/
def txt (f : Nat → Nat) : ByteArray := ⟨((List.range 16).map fun j => UInt8.ofNat (f j)).toArray⟩
theorem txt_size (f : Nat → Nat) : (txt f).size = 16 := by simp [txt, ByteArray.size]
theorem byt_txt (f : Nat → Nat) (hf : ∀ j, f j < 256) (j : Nat) (h : j < 16) : byt (txt f) j = f j := by
  unfold byt txt
  simp [h]
  exact hf j
theorem txt_byt (s : ByteArray) (h : s.size = 16) : txt (byt s) = s := by
  have hl : s.data.toList.length = 16 := by simpa using h
  have e : (List.range 16).map (fun j => UInt8.ofNat (byt s j)) = s.data.toList := by
    apply List.ext_getElem?
    intro j
    by_cases hj : j < 16
    · rw [List.getElem?_map, List.getElem?_range hj, List.getElem?_eq_getElem (by omega)]
      simp only [Option.map_some, byt, List.getD_eq_getElem?_getD, List.getElem?_eq_getElem (show j < s.data.toList.length by omega), Option.getD_some]
      simp
    · rw [List.getElem?_eq_none (by simp; omega), List.getElem?_eq_none (by omega)]
  unfold txt
  rw [e]
theorem txt_congr {f g : Nat → Nat} (h : ∀ j, j < 16 → f j = g j) : txt f = txt g := by
  unfold txt
  rw [List.map_congr_left fun j hj => by rw [h j (by simpa using hj)]]
theorem conv_txt (w : World) (a : Addr) (cap : Nat) (f : Nat → Nat) (hf : ∀ j, f j < 256) (hc : ∀ j u, (arr 16 f).toList[j]? = some u → w.cell? (a.add j) = some u) :
    (convert 31 9 (.slice (some a) 16 cap)).run Try.prog w = .ok (.string (txt f)) w := by
  have := run_convert_bytes_back (P := Try.prog) w 31 9 5 a cap ((List.range 16).map fun j => UInt8.ofNat (f j)) Try.underlying31 Try.underlying5 Try.underlying9 (fun j hj => by
    have hj : j < 16 := by simpa using hj
    refine hc j _ ?_
    rw [Array.getElem?_toList, arr_at 16 f j hj]
    simp
    have := hf j
    omega)
  simpa [txt] using this
theorem owns_keep {w w' : World} {base e size : Nat} {v : Value} {n : Nat} {xs : List Value} (h : w.ownsRow base e size v n xs) (hu : Upd (fun _ => False) w w') : w'.ownsRow base e size v n xs := by
  refine ⟨h.1, ?_⟩
  rcases h.2 with hn | ⟨g, cap, cur, rfl, hb, hgg, rest⟩
  · exact .inl hn
  · exact .inr ⟨g, cap, cur, rfl, hb, (hu.block g (heap_lt hgg) (fun h => h)).trans hgg, rest⟩
theorem cells_add {w : World} {b t n : Nat} {f : Nat → Nat} (h : Blk w b t n f) : ∀ j u, (arr n f).toList[j]? = some u → w.cell? ((⟨b, 0, none⟩ : Addr).add j) = some u := fun j u hj => by
  rw [Addr.add_mid]
  exact h.all j u hj
theorem list_one (n : Nat) (f : Nat → Nat) : ∀ u ∈ (arr n f).toList, u.oneCell' = true := fun u hu => by
  simp only [arr, List.toList_toArray, List.mem_map] at hu
  obtain ⟨j, _, rfl⟩ := hu
  rfl
/-- What write has in memory. -/
structure WriteR (w wr : World) (f : Nat → Nat) (v : Value) (n : Nat) : Prop where
  a : Blk wr w.heap.size 55 16 f
  o : wr.ownsRow (w.heap.size + 1) 5 1 v (4 * n) (arr (4 * n) f).toList
  u : Below w.heap.size w wr
theorem WriteR.next {w w5 w6 : World} {f : Nat → Nat} {v v' : Value} {n : Nat} {xs : List Value} (ha : Blk w5 w.heap.size 55 16 f) (hu : Below w.heap.size w w5) (_hsz : w.heap.size + 1 ≤ w5.heap.size) (ho : w5.ownsRow (w.heap.size + 1) 5 1 v (4 * n) xs) (hn : w6.ownsRow (w.heap.size + 1) 5 1 v' (4 * n + 4) (arr (4 * n + 4) f).toList) (hg : w5.grownBy w6 v.ownBlock) : WriteR w w6 f v' (n + 1) := by
  have hug : Upd (fun k => some k = v.ownBlock) w5 w6 := ⟨hg.os, hg.tape, hg.output, hg.size, hg.block⟩
  refine ⟨ha.keep hug (fun e => ?_), hn, hu.trans (hug.below hu.size fun k e => ?_)⟩
  · have := (ho.lt _ e.symm).1; omega
  · have := (ho.lt _ e.symm).1; omega
theorem WriteR.conv {w wr : World} {f : Nat → Nat} {v : Value} (h : WriteR w wr f v 4) (hf : ∀ j, f j < 256) : ∃ (g cap : Nat), v = .slice (some ⟨g, 0, none⟩) 16 cap ∧ (convert 31 9 (.slice (some ⟨g, 0, none⟩) 16 cap)).run Try.prog wr = .ok (.string (txt f)) wr := by
  have ho := h.o
  rcases ho.2 with ⟨_, hn⟩ | ⟨g, cap, cur, rfl, _⟩
  · omega
  · refine ⟨g, cap, rfl, conv_txt wr ⟨g, 0, none⟩ cap f hf fun j u hj => ?_⟩
    exact ho.cells (g := g) rfl j u hj

set_option maxHeartbeats 1000000 in
set_option maxRecDepth 20000 in
theorem write_any (f : Nat → Nat) (w : World) (hf : ∀ j, f j < 256) :
    Calls Try.prog 31 #[.agg (arr 16 f)] w fun e w' => e = .returned (.string (txt f)) ∧ Below w.heap.size w w' := by
  obtain ⟨i0, hi, hz0, hz1, hz2⟩ := info_parts info5
  have HI := Lib.hid (And.intro hi (And.intro hz0 (And.intro hz1 hz2))); clear hi hz0 hz1 hz2
  have hs : WriteR w (w.alloc (.cells (arr 16 f) 55)) f (.slice none 0 0) 0 := ⟨Blk.new w 55 16 f, World.ownsRow_nil _ _ _ _, (Below.refl _ _).alloc (Nat.le_refl _) _⟩
  have HS := Lib.hid hs; clear hs
  have HF := Lib.hid hf; clear hf
  go_enter Try.func31, Try.ntmps31
  go_upto_region 2 with (fail)
  generalize World.alloc w _ = w1 at *
  go_wp2_with (refine wpList_load_row rfl 55 (.tmp 1) rfl w.heap.size rfl 55 (arr 16 f) (0, 0) _ HS.out.a Try.underlying55 rfl (size16 55 i55 _) ?_)
  go_loopw [3, 7] (fun v i wr => ∃ n : Nat, n ≤ 4 ∧ i = .int .i64 n ∧ WriteR w wr f v n) (fun _ i _ => 4 - (intOf i).toNat)
  case atStart => exact ⟨0, by omega, rfl, HS.out⟩
  case round =>
    obtain ⟨n, hn, rfl, hr⟩ := hrel
    have HR := Lib.hid hr
    clear HS
    by_cases hn4 : n < 4
    · have hn0 : (n : Int) < 4 := by omega
      have hix := run_index_row f n hn4
      rename_i wr
      have hb0 := Blk.new wr 53 4 fun _ => 0
      have HB0 := Lib.hid hb0
      have HB1 := Lib.hid (hb0.setRow fun j => f (4 * n + j))
      have HU := Lib.hid ((upd_alloc (fun _ => False) wr (.cells (arr 4 fun _ => 0) 53)).above ((upd_setRow _ wr.heap.size (arr 4 fun j => f (4 * n + j))).mono (T := fun k => wr.heap.size ≤ k) fun k _ hk => by omega))
      clear hb0 hr
      go_upto_region 5 with (rw [zeros4]; refine wpList_store_row rfl 53 (.tmp 5) (.tmp 9) rfl wr.heap.size (arr 4 fun j => f (4 * n + j)) rfl rfl 53 _ HB0.out (size16 53 i53 _) (by rw [arr_size, arr_size]) (arr_one _ _) ?_)
      generalize World.setRow (World.alloc wr _) _ _ = w5 at *
      have hb1 := HB1.out
      have hu := HU.out
      have hown := owns_keep HR.out.o hu
      have HOWN := Lib.hid hown
      have HU5 := Lib.hid (And.intro (HR.out.a.keep hu (fun h => h)) (HR.out.u.trans (hu.below HR.out.u.size (fun _ h => h.elim))))
      have hsz : w.heap.size + 1 ≤ w5.heap.size := by have := hu.size; have := HR.out.a.lt; omega
      clear hb1 hu hown
      go_wp2_with (at_builtin; refine wpList_append_own _ rfl _ _ 31 rfl (w.heap.size + 1) 5 i0 (.int .u8 0) 1 1 Try.underlying31 HI.out.1 HI.out.2.1 HI.out.2.2.1 HI.out.2.2.2 rfl (by decide) _ (4 * n) _ rfl HOWN.out ⟨wr.heap.size, 0, none⟩ 4 4 (arr 4 fun j => f (4 * n + j)).toList rfl (by simp [arr]) (cells_add HB1.out) (list_one _ _) ?c3 ?c4 hsz ?_)
      case c3 => unfold maxLen; omega
      case c4 => omega
      intro v' w6 hown' hgrow _
      rw [arr_app] at hown'
      have HR6 := Lib.hid (WriteR.next HU5.out.1 HU5.out.2 hsz HOWN.out hown' hgrow)
      clear hown' hgrow hsz
      go_wp2_with fail
      go_roundw
      case rel => exact ⟨n + 1, by omega, by go_num, HR6.out⟩
      case measure => simp [intOf]; omega
    · have hn9 : n = 4 := by omega
      subst hn9
      obtain ⟨g, cap, rfl, hcv⟩ := hr.conv HF.out
      clear hr
      go_wp2_with fail
      go_ret
      exact ⟨rfl, HR.out.u⟩
end Go.Proofs.Ytlhakobfjokabaa
