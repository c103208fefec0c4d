/-
  The contract of turn.
-/
import Derived.Test.YtlhakobfjokabaaState2
namespace Go.Proofs.Ytlhakobfjokabaa
open Go.RowKit

/-- A state turned. -/
def trn (b : Nat) (f : Nat → Nat) : Nat → Nat := fun j => f (4 * ((j / 4 + b * (j % 4)) % 4) + j % 4)
/-- What turn has in memory. -/
structure TurnR (w wr : World) (f : Nat → Nat) (b n : Nat) : Prop where
  a : Blk wr w.heap.size 55 16 f
  c : Blk wr (w.heap.size + 1) 55 16 fun _ => 0
  t : Blk wr (w.heap.size + 2) 55 16 (upTo (trn b f) f n)
  u : Below w.heap.size w wr
theorem TurnR.start (w : World) (f : Nat → Nat) (b : Nat) : TurnR w ((((w.alloc (.cells (arr 16 f) 55)).alloc (.cells (arr 16 fun _ => 0) 55)).alloc (.cells (arr 16 fun _ => 0) 55)).setRow (((w.alloc (.cells (arr 16 f) 55)).alloc (.cells (arr 16 fun _ => 0) 55)).heap.size) (arr 16 f)) f b 0 := by
  have hz : ((w.alloc (.cells (arr 16 f) 55)).alloc (.cells (arr 16 fun _ => 0) 55)).heap.size = w.heap.size + 2 := by rw [World.size_alloc, World.size_alloc]
  have hu := upd_setRow ((((w.alloc (.cells (arr 16 f) 55)).alloc (.cells (arr 16 fun _ => 0) 55)).alloc (.cells (arr 16 fun _ => 0) 55))) (((w.alloc (.cells (arr 16 f) 55)).alloc (.cells (arr 16 fun _ => 0) 55)).heap.size) (arr 16 f)
  have h3 := (Blk.new ((w.alloc (.cells (arr 16 f) 55)).alloc (.cells (arr 16 fun _ => 0) 55)) 55 16 fun _ => 0).setRow f
  have hb := ((((Below.refl _ _).alloc (Nat.le_refl _) (.cells (arr 16 f) 55)).alloc (by simp) (.cells (arr 16 fun _ => 0) 55)).alloc (by simp; omega) (.cells (arr 16 fun _ => 0) 55) : Below w.heap.size w _)
  have h1 := (((Blk.new w 55 16 f).alloc (.cells (arr 16 fun _ => 0) 55)).alloc (.cells (arr 16 fun _ => 0) 55)).keep hu (by omega)
  have h2 := ((Blk.new (w.alloc (.cells (arr 16 f) 55)) 55 16 fun _ => 0).alloc (.cells (arr 16 fun _ => 0) 55)).keep hu (by rw [hz, World.size_alloc]; omega)
  have hbb := hb.trans (hu.below hb.size (by intro k hk; omega))
  rw [show (w.alloc (.cells (arr 16 f) 55)).heap.size = w.heap.size + 1 from World.size_alloc _ _] at h2
  generalize (w.alloc (.cells (arr 16 f) 55)).alloc (.cells (arr 16 fun _ => 0) 55) = w2 at *
  rw [hz] at h1 h2 h3 hbb ⊢
  exact ⟨h1, h2, by rw [upTo_zero]; exact h3, hbb⟩
theorem TurnR.next {w wr : World} {f : Nat → Nat} {b n : Nat} (h : TurnR w wr f b n) {o : Nat} (ho : o = n) {x : Nat} (hx : x = trn b f n) : TurnR w (wr.setCell ⟨w.heap.size + 2, o, none⟩ (.int .u8 x)).drew f b (n + 1) := by
  subst ho hx
  refine ⟨(h.a.other (by simp) _).drew, (h.c.other (by simp) _).drew, ?_, below_drew (h.u.setCell (p := ⟨w.heap.size + 2, o, none⟩) (by simp) _)⟩
  have := h.t.set o (trn b f o)
  rw [upTo_put] at this
  exact this

set_option maxHeartbeats 1000000 in
set_option maxRecDepth 20000 in
theorem turn1_any (f : Nat → Nat) (w : World) :
    Calls Try.prog 29 #[.agg (arr 16 f), .int .i64 1] w fun e w' => e = .returned (.agg (arr 16 (trn 1 f))) ∧ Below w.heap.size w w' := by
  have hs1 := (Blk.new w 55 16 f).alloc (.cells (arr 16 fun _ => 0) 55)
  have HS1 := Lib.hid hs1
  have HS := Lib.hid (TurnR.start w f 1)
  clear hs1
  go_enter Try.func29, Try.ntmps29
  go_upto_region 1 with (fail)
  rw [zeros16]
  generalize he : World.alloc (World.alloc w _) _ = w1 at *
  have HE := Lib.hid he; clear he
  have hz : w1.heap.size = w.heap.size + 2 := by rw [← HE.out, World.size_alloc, World.size_alloc]
  have hb3 : Blk (w1.alloc (.cells (arr 16 fun _ => 0) 55)) (w1.heap.size) 55 16 fun _ => 0 := Blk.new w1 55 16 fun _ => 0
  have HB3 := Lib.hid hb3; clear hb3
  have HZ := Lib.hid hz; clear hz
  go_wp2_with (first
        | (refine wpList_load_row rfl 55 (.tmp 2) rfl w.heap.size rfl 55 (arr 16 f) (0, 0) _ HS1.out Try.underlying55 rfl (size16 55 i55 _) ?_)
        | (rw [zeros16]; refine wpList_store_row rfl 55 (.tmp 5) (.tmp 8) rfl (w1.heap.size) (arr 16 f) rfl rfl 55 _ HB3.out (size16 55 i55 _) (by rw [arr_size, arr_size]) (arr_one _ _) ?_))
  rw [HZ.out]
  rw [HZ.out] at HS
  generalize World.setRow (World.alloc w1 _) _ _ = w2 at *
  go_loopw [9] (fun i wr => ∃ n : Nat, n ≤ 4 ∧ i = .int .i64 n ∧ TurnR w wr f 1 (4 * n)) (fun i _ => 4 - (intOf i).toNat)
  case atStart => exact ⟨0, by omega, rfl, HS.out⟩
  case round =>
    obtain ⟨n, hn, rfl, hr⟩ := hrel
    have HR := Lib.hid hr
    clear hr HS
    by_cases hn4 : n < 4
    · have hn0 : (n : Int) < 4 := by omega
      go_wp2_with fail
      go_loopw [12] (fun i wr => ∃ k : Nat, k ≤ 4 ∧ i = .int .i64 k ∧ TurnR w wr f 1 (4 * n + k)) (fun i _ => 4 - (intOf i).toNat)
      case atStart => exact ⟨0, by omega, rfl, HR.out⟩
      case round =>
        obtain ⟨k, hk, rfl, hr⟩ := hrel
        have HR := Lib.hid hr
        rename_i wr
        by_cases hk4 : k < 4
        · obtain ⟨m, hm⟩ : ∃ m, m = (n + k) % 4 := ⟨_, rfl⟩
          have c1 : wr.cell? ⟨w.heap.size, m * 4 + k, none⟩ = some (.int .u8 (trn 1 f (4 * n + k) : Nat)) := by
            rw [hr.a.cell (by omega)]
            unfold trn
            rw [show 4 * ((((4 * n + k) / 4) + 1 * ((4 * n + k) % 4)) % 4) + (4 * n + k) % 4 = m * 4 + k by omega]
          have c3 := hr.t.free (n * 4 + k)
          have c4 := hr.t.cell (j := n * 4 + k) (by omega)
          generalize upTo (trn 1 f) f (4 * n + k) (n * 4 + k) = old at c4
          have hk0 : (k : Int) < 4 := by omega
          have hi4 : (m : Int) < 4 := by omega
          have hw1 : IntKind.i64.wrap ((k : Int)) = (k : Int) := by rw [IntKind.wrap_i64]; omega
          have hw2 : IntKind.i64.wrap ((n : Int) + (k : Int)) = (n : Int) + (k : Int) := by rw [IntKind.wrap_i64]; omega
          have hw3 : ((n : Int) + (k : Int)).tmod 4 = (m : Int) := by rw [Int.tmod_eq_emod_of_nonneg (by omega)]; omega
          have hw4 : ((n : Int) + (k : Int)) % 4 = (m : Int) := by omega
          clear hm
          clear hr
          go_upto_region 8 with (fail)
          go_still_tail 14, (by kernel_rfl)
          go_wp2_with fail
          go_roundw
          case rel => exact ⟨k + 1, by omega, by go_num, HR.out.next (by omega) rfl⟩
          case measure => simp [intOf]; omega
        · have hk9 : k = 4 := by omega
          subst hk9
          go_wp2_with fail
          go_roundw
          case rel => exact ⟨n + 1, by omega, by go_num, HR.out⟩
          case measure => simp [intOf]; omega
    · have hn9 : n = 4 := by omega
      subst hn9
      go_upto_region 11 with (fail)
      go_wp2_with (first
        | (refine wpList_load_row rfl 55 (.tmp 5) rfl (w.heap.size + 2) rfl 55 (arr 16 (upTo (trn 1 f) f (4 * 4))) (0, 0) _ HR.out.t Try.underlying55 rfl (size16 55 i55 _) ?_)
        | (refine wpList_store_row rfl 55 (.tmp 4) (.tmp 31) rfl (w.heap.size + 1) (arr 16 (upTo (trn 1 f) f (4 * 4))) rfl rfl 55 _ HR.out.c (size16 55 i55 _) (by rw [arr_size, arr_size]) (arr_one _ _) ?_))
      refine bodyPost_ret (results_cell_row (g := w.heap.size + 1) rfl _ _ 55 (arr 16 (upTo (trn 1 f) f (4 * 4))) (0, 0) _ rfl (HR.out.c.setRow _) Try.underlying55 rfl (size16 55 i55 _)) rfl ⟨?_, (HR.out.u.trans ((upd_setRow _ (w.heap.size + 1) _).below HR.out.u.size (by omega)))⟩
      rw [arr_congr (upTo_all (trn 1 f) f (4 * 4))]

set_option maxHeartbeats 1000000 in
set_option maxRecDepth 20000 in
theorem turn3_any (f : Nat → Nat) (w : World) :
    Calls Try.prog 29 #[.agg (arr 16 f), .int .i64 3] w fun e w' => e = .returned (.agg (arr 16 (trn 3 f))) ∧ Below w.heap.size w w' := by
  have hs1 := (Blk.new w 55 16 f).alloc (.cells (arr 16 fun _ => 0) 55)
  have HS1 := Lib.hid hs1
  have HS := Lib.hid (TurnR.start w f 3)
  clear hs1
  go_enter Try.func29, Try.ntmps29
  go_upto_region 1 with (fail)
  rw [zeros16]
  generalize he : World.alloc (World.alloc w _) _ = w1 at *
  have HE := Lib.hid he; clear he
  have hz : w1.heap.size = w.heap.size + 2 := by rw [← HE.out, World.size_alloc, World.size_alloc]
  have hb3 : Blk (w1.alloc (.cells (arr 16 fun _ => 0) 55)) (w1.heap.size) 55 16 fun _ => 0 := Blk.new w1 55 16 fun _ => 0
  have HB3 := Lib.hid hb3; clear hb3
  have HZ := Lib.hid hz; clear hz
  go_wp2_with (first
        | (refine wpList_load_row rfl 55 (.tmp 2) rfl w.heap.size rfl 55 (arr 16 f) (0, 0) _ HS1.out Try.underlying55 rfl (size16 55 i55 _) ?_)
        | (rw [zeros16]; refine wpList_store_row rfl 55 (.tmp 5) (.tmp 8) rfl (w1.heap.size) (arr 16 f) rfl rfl 55 _ HB3.out (size16 55 i55 _) (by rw [arr_size, arr_size]) (arr_one _ _) ?_))
  rw [HZ.out]
  rw [HZ.out] at HS
  generalize World.setRow (World.alloc w1 _) _ _ = w2 at *
  go_loopw [9] (fun i wr => ∃ n : Nat, n ≤ 4 ∧ i = .int .i64 n ∧ TurnR w wr f 3 (4 * n)) (fun i _ => 4 - (intOf i).toNat)
  case atStart => exact ⟨0, by omega, rfl, HS.out⟩
  case round =>
    obtain ⟨n, hn, rfl, hr⟩ := hrel
    have HR := Lib.hid hr
    clear hr HS
    by_cases hn4 : n < 4
    · have hn0 : (n : Int) < 4 := by omega
      go_wp2_with fail
      go_loopw [12] (fun i wr => ∃ k : Nat, k ≤ 4 ∧ i = .int .i64 k ∧ TurnR w wr f 3 (4 * n + k)) (fun i _ => 4 - (intOf i).toNat)
      case atStart => exact ⟨0, by omega, rfl, HR.out⟩
      case round =>
        obtain ⟨k, hk, rfl, hr⟩ := hrel
        have HR := Lib.hid hr
        rename_i wr
        by_cases hk4 : k < 4
        · obtain ⟨m, hm⟩ : ∃ m, m = (n + 3 * k) % 4 := ⟨_, rfl⟩
          have c1 : wr.cell? ⟨w.heap.size, m * 4 + k, none⟩ = some (.int .u8 (trn 3 f (4 * n + k) : Nat)) := by
            rw [hr.a.cell (by omega)]
            unfold trn
            rw [show 4 * ((((4 * n + k) / 4) + 3 * ((4 * n + k) % 4)) % 4) + (4 * n + k) % 4 = m * 4 + k by omega]
          have c3 := hr.t.free (n * 4 + k)
          have c4 := hr.t.cell (j := n * 4 + k) (by omega)
          generalize upTo (trn 3 f) f (4 * n + k) (n * 4 + k) = old at c4
          have hk0 : (k : Int) < 4 := by omega
          have hi4 : (m : Int) < 4 := by omega
          have hw1 : IntKind.i64.wrap (3 * (k : Int)) = 3 * (k : Int) := by rw [IntKind.wrap_i64]; omega
          have hw2 : IntKind.i64.wrap ((n : Int) + 3 * (k : Int)) = (n : Int) + 3 * (k : Int) := by rw [IntKind.wrap_i64]; omega
          have hw3 : ((n : Int) + 3 * (k : Int)).tmod 4 = (m : Int) := by rw [Int.tmod_eq_emod_of_nonneg (by omega)]; omega
          have hw4 : ((n : Int) + 3 * (k : Int)) % 4 = (m : Int) := by omega
          clear hm
          clear hr
          go_upto_region 8 with (fail)
          go_still_tail 14, (by kernel_rfl)
          go_wp2_with fail
          go_roundw
          case rel => exact ⟨k + 1, by omega, by go_num, HR.out.next (by omega) rfl⟩
          case measure => simp [intOf]; omega
        · have hk9 : k = 4 := by omega
          subst hk9
          go_wp2_with fail
          go_roundw
          case rel => exact ⟨n + 1, by omega, by go_num, HR.out⟩
          case measure => simp [intOf]; omega
    · have hn9 : n = 4 := by omega
      subst hn9
      go_upto_region 11 with (fail)
      go_wp2_with (first
        | (refine wpList_load_row rfl 55 (.tmp 5) rfl (w.heap.size + 2) rfl 55 (arr 16 (upTo (trn 3 f) f (4 * 4))) (0, 0) _ HR.out.t Try.underlying55 rfl (size16 55 i55 _) ?_)
        | (refine wpList_store_row rfl 55 (.tmp 4) (.tmp 31) rfl (w.heap.size + 1) (arr 16 (upTo (trn 3 f) f (4 * 4))) rfl rfl 55 _ HR.out.c (size16 55 i55 _) (by rw [arr_size, arr_size]) (arr_one _ _) ?_))
      refine bodyPost_ret (results_cell_row (g := w.heap.size + 1) rfl _ _ 55 (arr 16 (upTo (trn 3 f) f (4 * 4))) (0, 0) _ rfl (HR.out.c.setRow _) Try.underlying55 rfl (size16 55 i55 _)) rfl ⟨?_, (HR.out.u.trans ((upd_setRow _ (w.heap.size + 1) _).below HR.out.u.size (by omega)))⟩
      rw [arr_congr (upTo_all (trn 3 f) f (4 * 4))]

end Go.Proofs.Ytlhakobfjokabaa
