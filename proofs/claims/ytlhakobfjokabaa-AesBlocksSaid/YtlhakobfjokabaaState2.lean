/-
  The contracts of a state's methods: through, turn.
-/
import Derived.Test.YtlhakobfjokabaaState
namespace Go.Proofs.Ytlhakobfjokabaa
open Go.RowKit

theorem i53 : (Try.prog.info? 53).map (·.size) = some 4 := by kernel_rfl
theorem i53l (f : Nat → Nat) : (Try.prog.info? 53).map (·.size) = some (arr 4 f).toList.length := by
  rw [show (arr 4 f).toList.length = 4 by simp [arr]]
  exact i53
theorem agg5 (w : World) : (isAgg 5).run Try.prog w = .ok false w := by kernel_rfl
theorem siz5 (w : World) : (sizeOf 5).run Try.prog w = .ok 1 w := by kernel_rfl
theorem run_index_arr (ty n : Nat) (hu : Try.prog.underlying ty = some (.array n 5)) (g : Nat → Nat) (k : Nat) (hk : k < n) (w : World) :
    (Instr.index ty (.agg (arr n g)) (.int .i64 k)).run Try.prog w = .ok (.int .u8 (g k)) w := by
  have h1 := arr_at n g k hk
  simp [Instr.index, run_underlying hu, asIntOf, go_sem, agg5, siz5, hk, h1]

/-- What through has in memory. -/
structure ThrR (w wr : World) (f T : Nat → Nat) (n : Nat) : Prop where
  a : Blk wr w.heap.size 55 16 (upTo (fun j => T (f j)) f n)
  c : Blk wr (w.heap.size + 1) 55 16 fun _ => 0
  u : Below w.heap.size w wr
theorem ThrR.start (w : World) (f T : Nat → Nat) : ThrR w ((w.alloc (.cells (arr 16 f) 55)).alloc (.cells (arr 16 fun _ => 0) 55)) f T 0 := by
  refine ⟨?_, ?_, (((Below.refl _ _).alloc (Nat.le_refl _) _).alloc (by simp) _)⟩
  · rw [upTo_zero]; exact (Blk.new w 55 16 f).alloc _
  · have := Blk.new (w.alloc (.cells (arr 16 f) 55)) 55 16 fun _ => 0
    simpa using this
theorem ThrR.next {w wr : World} {f T : Nat → Nat} {n : Nat} (h : ThrR w wr f T n) {o : Nat} (ho : o = n) {x : Nat} (hx : x = T (f n)) : ThrR w (wr.setCell ⟨w.heap.size, o, none⟩ (.int .u8 x)).drew f T (n + 1) := by
  subst ho hx
  refine ⟨?_, (h.c.other (by simp) _).drew, below_drew (h.u.setCell (p := ⟨w.heap.size, o, none⟩) (Nat.le_refl _) _)⟩
  have := h.a.set o (T (f o))
  rw [show put (upTo (fun j => T (f j)) f o) o (T (f o)) = upTo (fun j => T (f j)) f (o + 1) from upTo_put (fun j => T (f j)) f o] at this
  exact this

set_option maxHeartbeats 1000000 in
set_option maxRecDepth 20000 in
theorem through_any (f T : Nat → Nat) (tb tp : Nat) (w : World) (hf : ∀ j, f j < 256) (hT : ∀ j, j < 256 → w.cell? ⟨tb, tp + j, none⟩ = some (.int .u8 (T j))) :
    Calls Try.prog 28 #[.agg (arr 16 f), .pointer (some ⟨tb, tp, none⟩)] w fun e w' => e = .returned (.agg (arr 16 fun j => T (f j))) ∧ Below w.heap.size w w' := by
  have HS := Lib.hid (ThrR.start w f T)
  have HF := Lib.hid hf
  have HT := Lib.hid hT
  clear hf hT
  go_enter Try.func28, Try.ntmps28
  go_upto_region 1 with (fail)
  rw [zeros16]
  generalize World.alloc (World.alloc w _) _ = w1 at *
  go_wp2_with fail
  go_loopw [8] (fun i wr => ∃ n : Nat, n ≤ 4 ∧ i = .int .i64 n ∧ ThrR w wr f T (4 * n)) (fun i _ => 4 - (intOf i).toNat)
  case atStart => exact ⟨0, by omega, rfl, HS.out⟩
  case round =>
    obtain ⟨n, hn, rfl, hr⟩ := hrel
    have HR := Lib.hid hr
    clear hr HS
    by_cases hn4 : n < 4
    · have hn0 : (n : Int) < 4 := by omega
      rename_i wr0 _ _
      have hra := HR.out.a.range (4 * n) 4 (by omega)
      rw [arr_congr (g := fun j => f (4 * n + j)) (fun j _ => by unfold upTo; rw [if_neg (by omega)])] at hra
      have HRA := Lib.hid hra; clear hra
      go_upto_region 4 with (fail)
      go_wp2_with (refine wpList_load_mid rfl 53 (.tmp 12) rfl w.heap.size (4 * n) (by show _ = Value.pointer (some ⟨w.heap.size, 4 * n, none⟩); rw [Nat.mul_comm]; rfl) (arr 4 fun j => f (4 * n + j)).toList _ HRA.out Try.underlying53 rfl (i53l _) ?_)
      go_loopw [14] (fun i wr => ∃ k : Nat, k ≤ 4 ∧ i = .int .i64 k ∧ ThrR w wr f T (4 * n + k)) (fun i _ => 4 - (intOf i).toNat)
      case atStart => exact ⟨0, by omega, rfl, HR.out⟩
      case round =>
        obtain ⟨k, hk, rfl, hr⟩ := hrel
        have HR := Lib.hid hr
        rename_i wr
        by_cases hk4 : k < 4
        · have hj : n * 4 + k = 4 * n + k := by omega
          have c2 := (HR.out.u.cell (p := ⟨tb, tp + f (4 * n + k), none⟩) (cell_lt (HT.out _ (HF.out _)))).trans (HT.out _ (HF.out _))
          have c3 := hr.a.free (n * 4 + k)
          have c1 : wr.cell? ⟨w.heap.size, n * 4 + k, none⟩ = some (.int .u8 (f (4 * n + k) : Nat)) := by rw [hj, hr.a.cell (by omega), upTo_at]
          have hfl : ((f (4 * n + k) : Nat) : Int) < 256 := by have := HF.out (4 * n + k); omega
          have hix := run_index_arr 53 4 Try.underlying53 (fun j => f (4 * n + j)) k hk4
          have hk0 : (k : Int) < 4 := by omega
          clear hj hr
          go_upto_region 7 with (fail)
          go_still_tail 9, (by kernel_rfl)
          go_wp2_with fail
          go_roundw
          case rel => exact ⟨k + 1, by omega, by go_num, HR.out.next (by omega) rfl⟩
          case measure => simp [intOf]; omega
        · have hk9 : k = 4 := by omega
          subst hk9
          go_wp2_with fail
          go_roundw
          case rel => exact ⟨n + 1, by omega, by go_num, HR.out⟩
          case measure => simp [intOf]; omega
    · have hn9 : n = 4 := by omega
      subst hn9
      go_upto_region 10 with (fail)
      go_wp2_with (first
        | (refine wpList_load_row rfl 55 (.tmp 2) rfl w.heap.size rfl 55 (arr 16 (upTo (fun j => T (f j)) f (4 * 4))) (0, 0) _ HR.out.a Try.underlying55 rfl (size16 55 i55 _) ?_)
        | (refine wpList_store_row rfl 55 (.tmp 4) (.tmp 29) rfl (w.heap.size + 1) (arr 16 (upTo (fun j => T (f j)) f (4 * 4))) rfl rfl 55 _ HR.out.c (size16 55 i55 _) (by rw [arr_size, arr_size]) (arr_one _ _) ?_))
      refine bodyPost_ret (results_cell_row (g := w.heap.size + 1) rfl _ _ 55 (arr 16 (upTo (fun j => T (f j)) f (4 * 4))) (0, 0) _ rfl (HR.out.c.setRow _) Try.underlying55 rfl (size16 55 i55 _)) rfl ⟨?_, (HR.out.u.trans ((upd_setRow _ (w.heap.size + 1) _).below HR.out.u.size (by omega)))⟩
      rw [arr_congr (upTo_all (fun j => T (f j)) f (4 * 4))]
end Go.Proofs.Ytlhakobfjokabaa
