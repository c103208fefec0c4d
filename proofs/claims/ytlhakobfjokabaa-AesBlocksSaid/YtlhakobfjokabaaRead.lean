/-
  The contracts of read and word.
-/
import Derived.Test.YtlhakobfjokabaaMix
namespace Go.Proofs.Ytlhakobfjokabaa
open Go.RowKit

/-- A byte of a text. -/
def byt (s : ByteArray) (j : Nat) : Nat := (s.data.toList.getD j 0).toNat
theorem byt_lt (s : ByteArray) (j : Nat) : byt s j < 256 := (s.data.toList.getD j 0).toNat_lt
theorem byt_at (s : ByteArray) (j : Nat) (h : j < s.size) : s[j].toNat = byt s j := by
  unfold byt
  have h2 : j < s.data.toList.length := by simpa using h
  rw [List.getD_eq_getElem?_getD, List.getElem?_eq_getElem h2]
  rfl

/-- What read has in memory. -/
structure ReadR (w wr : World) (g : Nat → Nat) : Prop where
  c : Blk wr w.heap.size 55 16 fun _ => 0
  t : Blk wr (w.heap.size + 1) 55 16 g
  u : Below w.heap.size w wr
theorem ReadR.start (w : World) : ReadR w ((w.alloc (.cells (arr 16 fun _ => 0) 55)).alloc (.cells (arr 16 fun _ => 0) 55)) fun _ => 0 := by
  have z1 : (w.alloc (.cells (arr 16 fun _ => 0) 55)).heap.size = w.heap.size + 1 := World.size_alloc _ _
  have h1 := Blk.new (w.alloc (.cells (arr 16 fun _ => 0) 55)) 55 16 fun _ => 0
  rw [z1] at h1
  exact ⟨(Blk.new w 55 16 fun _ => 0).alloc _, h1, ((Below.refl _ _).alloc (Nat.le_refl _) _).alloc (by rw [z1]; omega) _⟩
theorem ReadR.put {w wr : World} {g g' : Nat → Nat} (h : ReadR w wr g) {o x : Nat} (hg : put g o x = g') : ReadR w (wr.setCell ⟨w.heap.size + 1, o, none⟩ (.int .u8 x)).drew g' := by
  subst hg
  exact ⟨(h.c.other (by simp) _).drew, (h.t.set o x).drew, below_drew (h.u.setCell (p := ⟨w.heap.size + 1, o, none⟩) (by simp) _)⟩

set_option maxHeartbeats 1000000 in
set_option maxRecDepth 20000 in
theorem read_any (s : ByteArray) (w : World) (hs : s.size = 16) :
    Calls Try.prog 26 #[.string s] w fun e w' => e = .returned (.agg (arr 16 (byt s))) ∧ Below w.heap.size w w' := by
  have HS := Lib.hid (ReadR.start w)
  have HL := Lib.hid hs; clear hs
  go_enter Try.func26, Try.ntmps26
  go_upto_region 2 with (fail)
  rw [zeros16]
  generalize World.alloc (World.alloc w _) _ = w1 at *
  go_wp2_with fail
  go_loopw [5] (fun i wr => ∃ n : Nat, n ≤ 16 ∧ i = .int .i64 n ∧ ReadR w wr (upTo (byt s) (fun _ => 0) n)) (fun i _ => 16 - (intOf i).toNat)
  case atStart => exact ⟨0, by omega, rfl, by rw [upTo_zero]; exact HS.out⟩
  case round =>
    obtain ⟨n, hn, rfl, hr⟩ := hrel
    have HR := Lib.hid hr
    clear HS
    by_cases hn4 : n < 16
    · have hn0 : (n : Int) < 16 := by omega
      have hsz : n < s.size := by rw [HL.out]; exact hn4
      have HB := Lib.hid (byt_at s n hsz)
      obtain ⟨q, hq⟩ : ∃ q, q = n / 4 := ⟨_, rfl⟩
      obtain ⟨m, hm⟩ : ∃ m, m = n % 4 := ⟨_, rfl⟩
      have hq1 : (n : Int).tdiv 4 = (q : Int) := by rw [Int.tdiv_eq_ediv_of_nonneg (by omega)]; omega
      have hq2 : (n : Int) / 4 = (q : Int) := by omega
      have hm1 : (n : Int).tmod 4 = (m : Int) := by rw [Int.tmod_eq_emod_of_nonneg (by omega)]; omega
      have hm2 : (n : Int) % 4 = (m : Int) := by omega
      have hq4 : (q : Int) < 4 := by omega
      have hqw : IntKind.i64.wrap (q : Int) = (q : Int) := by rw [IntKind.wrap_i64]; omega
      have hm4 : (m : Int) < 4 := by omega
      have HQ := Lib.hid (show q * 4 + m = n by omega)
      have hf := hr.t.free (q * 4 + m)
      have hc := hr.t.cell (j := q * 4 + m) (by omega)
      generalize upTo (byt s) (fun _ => 0) n (q * 4 + m) = old at hc
      clear hr hq hm
      go_upto_region 5 with (fail)
      go_still_tail 9, (by kernel_rfl)
      go_wp2_with fail
      go_roundw
      case rel => exact ⟨n + 1, by omega, by go_num, HR.out.put (by rw [HB.out, HQ.out, upTo_put])⟩
      case measure => simp [intOf]; omega
    · have hn9 : n = 16 := by omega
      subst hn9
      clear hr
      go_upto_region 7 with (fail)
      go_wp2_with (first
        | (refine wpList_load_row rfl 55 (.tmp 3) rfl (w.heap.size + 1) rfl 55 (arr 16 (upTo (byt s) (fun _ => 0) 16)) (0, 0) _ HR.out.t Try.underlying55 rfl (size16 55 i55 _) ?_)
        | (refine wpList_store_row rfl 55 (.tmp 2) (.tmp 18) rfl w.heap.size (arr 16 (upTo (byt s) (fun _ => 0) 16)) rfl rfl 55 _ HR.out.c (size16 55 i55 _) (by rw [arr_size, arr_size]) (arr_one _ _) ?_))
      refine bodyPost_ret (results_cell_row (g := w.heap.size) rfl _ _ 55 (arr 16 (upTo (byt s) (fun _ => 0) 16)) (0, 0) _ rfl (HR.out.c.setRow _) Try.underlying55 rfl (size16 55 i55 _)) rfl ⟨?_, (HR.out.u.trans ((upd_setRow _ w.heap.size _).below HR.out.u.size (by omega)))⟩
      rw [arr_congr (upTo_all (byt s) (fun _ => 0) 16)]

/-- What word has in memory. -/
structure WordR (w wr : World) (g : Nat → Nat) : Prop where
  c : Blk wr (w.heap.size + 1) 53 4 fun _ => 0
  t : Blk wr w.heap.size 53 4 g
  u : Below w.heap.size w wr
theorem WordR.start (w : World) (f : Nat → Nat) : WordR w ((w.alloc (.cells (arr 4 f) 53)).alloc (.cells (arr 4 fun _ => 0) 53)) f := by
  have z1 : (w.alloc (.cells (arr 4 f) 53)).heap.size = w.heap.size + 1 := World.size_alloc _ _
  have h1 := Blk.new (w.alloc (.cells (arr 4 f) 53)) 53 4 fun _ => 0
  rw [z1] at h1
  exact ⟨h1, (Blk.new w 53 4 f).alloc _, ((Below.refl _ _).alloc (Nat.le_refl _) _).alloc (by rw [z1]; omega) _⟩
theorem WordR.put {w wr : World} {g g' : Nat → Nat} (h : WordR w wr g) {o x : Nat} (hg : Ytlhakobfjokabaa.put g o x = g') : WordR w (wr.setCell ⟨w.heap.size, o, none⟩ (.int .u8 x)) g' := by
  subst hg
  exact ⟨h.c.other (by simp) _, h.t.set o x, h.u.setCell (p := ⟨w.heap.size, o, none⟩) (by simp) _⟩
theorem zeros4 : (#[.int .u8 0, .int .u8 0, .int .u8 0, .int .u8 0] : Array Value) = arr 4 fun _ => 0 := by rfl

set_option maxHeartbeats 1000000 in
set_option maxRecDepth 20000 in
theorem word_any (C : Nat) (f T : Nat → Nat) (w : World) (hf : ∀ j, f j < 256) (hT : ∀ j, j < 256 → w.cell? ⟨C, 2 + j, none⟩ = some (.int .u8 (T j))) :
    Calls Try.prog 33 #[.pointer (some ⟨C, 0, none⟩), .agg (arr 4 f)] w fun e w' => e = .returned (.agg (arr 4 fun j => T (f j))) ∧ Below w.heap.size w w' := by
  have HS := Lib.hid (WordR.start w f)
  have HF := Lib.hid hf
  have HT := Lib.hid hT
  clear hf hT
  go_enter Try.func33, Try.ntmps33
  go_upto_region 1 with (fail)
  rw [zeros4]
  generalize World.alloc (World.alloc w _) _ = w1 at *
  go_wp2_with (refine wpList_load_row rfl 53 (.tmp 3) rfl w.heap.size rfl 53 (arr 4 f) (0, 0) _ HS.out.t Try.underlying53 rfl (size16 53 i53 _) ?_)
  go_loopw [8] (fun i wr => ∃ n : Nat, n ≤ 4 ∧ i = .int .i64 n ∧ WordR w wr (upTo (fun j => T (f j)) f n)) (fun i _ => 4 - (intOf i).toNat)
  case atStart => exact ⟨0, by omega, rfl, by rw [upTo_zero]; exact HS.out⟩
  case round =>
    obtain ⟨n, hn, rfl, hr⟩ := hrel
    have HR := Lib.hid hr
    clear HS
    by_cases hn4 : n < 4
    · have hn0 : (n : Int) < 4 := by omega
      have hix := run_index_arr 53 4 Try.underlying53 f n hn4
      have c2 := (HR.out.u.cell (p := ⟨C, 2 + f n, none⟩) (cell_lt (HT.out _ (HF.out _)))).trans (HT.out _ (HF.out _))
      have hfl : ((f n : Nat) : Int) < 256 := by have := HF.out n; omega
      have hfr := hr.t.free n
      have hc := hr.t.cell (j := n) (by omega)
      rw [upTo_at] at hc
      clear hr
      go_wp2_with fail
      go_roundw
      case rel => exact ⟨n + 1, by omega, by go_num, HR.out.put (upTo_put _ _ _)⟩
      case measure => simp [intOf]; omega
    · have hn9 : n = 4 := by omega
      subst hn9
      clear hr
      go_upto_region 6 with (fail)
      go_wp2_with (first
        | (refine wpList_load_row rfl 53 (.tmp 3) rfl w.heap.size rfl 53 (arr 4 (upTo (fun j => T (f j)) f 4)) (0, 0) _ HR.out.t Try.underlying53 rfl (size16 53 i53 _) ?_)
        | (refine wpList_store_row rfl 53 (.tmp 4) (.tmp 21) rfl (w.heap.size + 1) (arr 4 (upTo (fun j => T (f j)) f 4)) rfl rfl 53 _ HR.out.c (size16 53 i53 _) (by rw [arr_size, arr_size]) (arr_one _ _) ?_))
      refine bodyPost_ret (results_cell_row (g := w.heap.size + 1) rfl _ _ 53 (arr 4 (upTo (fun j => T (f j)) f 4)) (0, 0) _ rfl (HR.out.c.setRow _) Try.underlying53 rfl (size16 53 i53 _)) rfl ⟨?_, (HR.out.u.trans ((upd_setRow _ (w.heap.size + 1) _).below HR.out.u.size (by omega)))⟩
      rw [arr_congr (upTo_all (fun j => T (f j)) f 4)]
end Go.Proofs.Ytlhakobfjokabaa
