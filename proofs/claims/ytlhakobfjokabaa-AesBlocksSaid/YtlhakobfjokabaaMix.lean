/-
  The contract of mix.
-/
import Derived.Test.YtlhakobfjokabaaTurn
namespace Go.Proofs.Ytlhakobfjokabaa
open Go.RowKit

/-- So many terms of a column's product. -/
def mixA (a f : Nat → Nat) (n : Nat) : Nat → Nat
  | 0 => 0
  | j + 1 => mixA a f n j ^^^ mul (f (4 * (n / 4) + (n % 4 + j) % 4)) (a j)
/-- A state mixed. -/
def mx (a f : Nat → Nat) : Nat → Nat := fun n => mixA a f n 4
theorem mixA_lt (a f : Nat → Nat) (hf : ∀ j, f j < 256) (n : Nat) : ∀ j, mixA a f n j < 256
  | 0 => by show 0 < 256; omega
  | j + 1 => Nat.xor_lt_two_pow (n := 8) (mixA_lt a f hf n j) (mul_lt _ _ (hf _))
theorem mx_lt (a f : Nat → Nat) (hf : ∀ j, f j < 256) (j : Nat) : mx a f j < 256 := mixA_lt a f hf j 4
/-- What mix has in memory. -/
structure MixR (w wr : World) (a f : Nat → Nat) (g : Nat → Nat) : Prop where
  s : Blk wr w.heap.size 55 16 f
  y : Blk wr (w.heap.size + 1) 53 4 a
  c : Blk wr (w.heap.size + 2) 55 16 fun _ => 0
  t : Blk wr (w.heap.size + 3) 55 16 g
  u : Below w.heap.size w wr
theorem MixR.start (w : World) (a f : Nat → Nat) : MixR w (((((w.alloc (.cells (arr 16 f) 55)).alloc (.cells (arr 4 a) 53)).alloc (.cells (arr 16 fun _ => 0) 55)).alloc (.cells (arr 16 fun _ => 0) 55)).setRow (w.heap.size + 3) (arr 16 f)) a f f := by
  have z1 : (w.alloc (.cells (arr 16 f) 55)).heap.size = w.heap.size + 1 := World.size_alloc _ _
  have z2 : ((w.alloc (.cells (arr 16 f) 55)).alloc (.cells (arr 4 a) 53)).heap.size = w.heap.size + 2 := by rw [World.size_alloc, z1]
  have z3 : (((w.alloc (.cells (arr 16 f) 55)).alloc (.cells (arr 4 a) 53)).alloc (.cells (arr 16 fun _ => 0) 55)).heap.size = w.heap.size + 3 := by rw [World.size_alloc, z2]
  have h0 := Blk.new w 55 16 f
  have h1 := Blk.new (w.alloc (.cells (arr 16 f) 55)) 53 4 a
  have h2 := Blk.new ((w.alloc (.cells (arr 16 f) 55)).alloc (.cells (arr 4 a) 53)) 55 16 fun _ => 0
  have h3 := Blk.new (((w.alloc (.cells (arr 16 f) 55)).alloc (.cells (arr 4 a) 53)).alloc (.cells (arr 16 fun _ => 0) 55)) 55 16 fun _ => 0
  rw [z1] at h1
  rw [z2] at h2
  rw [z3] at h3
  have hb : Below w.heap.size w _ := ((((Below.refl _ _).alloc (Nat.le_refl _) (.cells (arr 16 f) 55)).alloc (by rw [z1]; omega) (.cells (arr 4 a) 53)).alloc (by rw [z2]; omega) (.cells (arr 16 fun _ => 0) 55)).alloc (by rw [z3]; omega) (.cells (arr 16 fun _ => 0) 55)
  have hu := upd_setRow ((((w.alloc (.cells (arr 16 f) 55)).alloc (.cells (arr 4 a) 53)).alloc (.cells (arr 16 fun _ => 0) 55)).alloc (.cells (arr 16 fun _ => 0) 55)) (w.heap.size + 3) (arr 16 f)
  exact ⟨(((h0.alloc _).alloc _).alloc _).keep hu (by omega), ((h1.alloc _).alloc _).keep hu (by omega), (h2.alloc _).keep hu (by omega), h3.setRow f, hb.trans (hu.below hb.size (by intro k hk; omega))⟩
theorem MixR.put {w wr : World} {a f g g' : Nat → Nat} (h : MixR w wr a f g) {o x : Nat} (hg : put g o x = g') : MixR w (wr.setCell ⟨w.heap.size + 3, o, none⟩ (.int .u8 x)) a f g' := by
  subst hg
  exact ⟨h.s.other (by simp) _, h.y.other (by simp) _, h.c.other (by simp) _, h.t.set o x, h.u.setCell (p := ⟨w.heap.size + 3, o, none⟩) (by simp) _⟩
theorem MixR.drew {w wr : World} {a f g : Nat → Nat} (h : MixR w wr a f g) : MixR w wr.drew a f g := ⟨h.s.drew, h.y.drew, h.c.drew, h.t.drew, below_drew h.u⟩
theorem put_put (g : Nat → Nat) (n x y : Nat) : put (put g n x) n y = put g n y := by funext j; unfold put; split <;> rfl
theorem put_at (g : Nat → Nat) (n x : Nat) : put g n x n = x := by simp [put]

set_option maxHeartbeats 2000000 in
set_option maxRecDepth 20000 in
theorem mix_any (a f : Nat → Nat) (w : World) (hf : ∀ j, f j < 256) (ha : ∀ j, a j < 256) :
    Calls Try.prog 30 #[.agg (arr 16 f), .agg (arr 4 a)] w fun e w' => e = .returned (.agg (arr 16 (mx a f))) ∧ Below w.heap.size w w' := by
  have hs1 := ((Blk.new w 55 16 f).alloc (.cells (arr 4 a) 53)).alloc (.cells (arr 16 fun _ => 0) 55)
  have HS1 := Lib.hid hs1
  have HS := Lib.hid (MixR.start w a f)
  have HF := Lib.hid hf
  have HA := Lib.hid ha
  clear hs1 hf ha
  go_enter Try.func30, Try.ntmps30
  go_upto_region 1 with (fail)
  rw [zeros16]
  generalize he : World.alloc (World.alloc (World.alloc w _) _) _ = w1 at *
  have HE := Lib.hid he; clear he
  have hz : w1.heap.size = w.heap.size + 3 := by rw [← HE.out, World.size_alloc, World.size_alloc, World.size_alloc]
  have hb3 : Blk (w1.alloc (.cells (arr 16 fun _ => 0) 55)) (w1.heap.size) 55 16 fun _ => 0 := Blk.new w1 55 16 fun _ => 0
  have HB3 := Lib.hid hb3; clear hb3
  have HZ := Lib.hid hz; clear hz
  go_wp2_with (first
        | (refine wpList_load_row rfl 55 (.tmp 2) rfl w.heap.size rfl 55 (arr 16 f) (0, 0) _ HS1.out Try.underlying55 rfl (size16 55 i55 _) ?_)
        | (rw [zeros16]; refine wpList_store_row rfl 55 (.tmp 5) (.tmp 10) rfl (w1.heap.size) (arr 16 f) rfl rfl 55 _ HB3.out (size16 55 i55 _) (by rw [arr_size, arr_size]) (arr_one _ _) ?_))
  rw [HZ.out]
  generalize World.setRow (World.alloc w1 _) _ _ = w2 at *
  go_loopw [11] (fun i wr => ∃ n : Nat, n ≤ 4 ∧ i = .int .i64 n ∧ MixR w wr a f (upTo (mx a f) f (4 * n))) (fun i _ => 4 - (intOf i).toNat)
  case atStart => exact ⟨0, by omega, rfl, by rw [upTo_zero]; exact HS.out⟩
  case round =>
    obtain ⟨n, hn, rfl, hr⟩ := hrel
    have HR := Lib.hid hr
    clear hr HS
    by_cases hn4 : n < 4
    · have hn0 : (n : Int) < 4 := by omega
      go_wp2_with fail
      go_loopw [14] (fun i wr => ∃ k : Nat, k ≤ 4 ∧ i = .int .i64 k ∧ MixR w wr a f (upTo (mx a f) f (4 * n + k))) (fun i _ => 4 - (intOf i).toNat)
      case atStart => exact ⟨0, by omega, rfl, HR.out⟩
      case round =>
        obtain ⟨k, hk, rfl, hr⟩ := hrel
        have HR := Lib.hid hr
        rename_i wr
        by_cases hk4 : k < 4
        · have hk0 : (k : Int) < 4 := by omega
          have c3 := hr.t.free (n * 4 + k)
          have c4 := hr.t.cell (j := n * 4 + k) (by omega)
          generalize upTo (mx a f) f (4 * n + k) (n * 4 + k) = old at c4
          have HM := Lib.hid (hr.put (o := n * 4 + k) (x := 0) rfl)
          clear hr
          go_upto_region 9 with (fail)
          rw [show (Value.int .u8 0) = Value.int .u8 ((0 : Nat) : Int) from rfl]
          generalize World.setCell wr _ _ = w5 at *
          have hb := HM.out.y.all
          have HB := Lib.hid hb; clear hb
          clear c3 c4
          go_wp2_with (refine wpList_load_row rfl 53 (.tmp 3) rfl (w.heap.size + 1) rfl 53 (arr 4 a) (0, 0) _ HM.out.y Try.underlying53 rfl (size16 53 i53 _) ?_)
          go_loopw [22] (fun i wr => ∃ j : Nat, j ≤ 4 ∧ i = .int .i64 j ∧ MixR w wr a f (put (upTo (mx a f) f (4 * n + k)) (n * 4 + k) (mixA a f (n * 4 + k) j))) (fun i _ => 4 - (intOf i).toNat)
          case atStart => exact ⟨0, by omega, rfl, HM.out⟩
          case round =>
            obtain ⟨j, hj, rfl, hr⟩ := hrel
            have HR := Lib.hid hr
            rename_i wr
            by_cases hj4 : j < 4
            · have hj0 : (j : Int) < 4 := by omega
              obtain ⟨m, hm⟩ : ∃ m, m = (k + j) % 4 := ⟨_, rfl⟩
              have c1 : wr.cell? ⟨w.heap.size, n * 4 + m, none⟩ = some (.int .u8 (f (n * 4 + m) : Nat)) := hr.s.cell (by omega)
              have c2 : wr.cell? ⟨w.heap.size + 3, n * 4 + k, none⟩ = some (.int .u8 (mixA a f (n * 4 + k) j : Nat)) := by rw [hr.t.cell (by omega), put_at]
              have c3 := hr.t.free (n * 4 + k)
              have hi4 : (m : Int) < 4 := by omega
              have hw2 : IntKind.i64.wrap ((k : Int) + (j : Int)) = (k : Int) + (j : Int) := by rw [IntKind.wrap_i64]; omega
              have hw3 : ((k : Int) + (j : Int)).tmod 4 = (m : Int) := by rw [Int.tmod_eq_emod_of_nonneg (by omega)]; omega
              have hw4 : ((k : Int) + (j : Int)) % 4 = (m : Int) := by omega
              have hix := run_index_arr 53 4 Try.underlying53 a j hj4
              have hacc : mixA a f (n * 4 + k) (j + 1) = mixA a f (n * 4 + k) j ^^^ mul (f (n * 4 + m)) (a j) := by
                show mixA a f (n * 4 + k) j ^^^ mul (f (4 * ((n * 4 + k) / 4) + ((n * 4 + k) % 4 + j) % 4)) (a j) = _
                rw [show 4 * ((n * 4 + k) / 4) + ((n * 4 + k) % 4 + j) % 4 = n * 4 + m by omega]
              have hx : bits .xor .u8 (mixA a f (n * 4 + k) j : Int) (mul (f (n * 4 + m)) (a j) : Int) = ((mixA a f (n * 4 + k) j ^^^ mul (f (n * 4 + m)) (a j) : Nat) : Int) := u8_xor_nat _ _ (mixA_lt a f HF.out _ _) (mul_lt _ _ (HF.out _))
              have HACC := Lib.hid hacc
              clear hm hr hacc
              go_upto_region 12 with (fail)
              go_still_tail 18, (by kernel_rfl)
              still_call ((Times_any (f (n * 4 + m)) (a j) _ (HF.out _) (HA.out _)).mono fun _ _ ⟨h1, h2⟩ => ⟨h1, h2.symm⟩)
              repeat still_step
              refine wpStill_nil ?_
              go_wp2_with fail
              go_roundw
              case rel => exact ⟨j + 1, by omega, by go_num, (HR.out.put (by rw [put_put, HACC.out])).drew⟩
              case measure => simp [intOf]; omega
            · have hj9 : j = 4 := by omega
              subst hj9
              go_wp2_with fail
              go_roundw
              case rel => exact ⟨k + 1, by omega, by go_num, by have h := HR.out; rw [show n * 4 + k = 4 * n + k by omega] at h; rw [show mixA a f (4 * n + k) 4 = mx a f (4 * n + k) from rfl, upTo_put] at h; exact h⟩
              case measure => simp [intOf]; omega
        · have hk9 : k = 4 := by omega
          subst hk9
          go_wp2_with fail
          go_roundw
          case rel => exact ⟨n + 1, by omega, by go_num, HR.out⟩
          case measure => simp [intOf]; omega
    · have hn9 : n = 4 := by omega
      subst hn9
      go_upto_region 16 with (fail)
      go_wp2_with (first
        | (refine wpList_load_row rfl 55 (.tmp 5) rfl (w.heap.size + 3) rfl 55 (arr 16 (upTo (mx a f) f (4 * 4))) (0, 0) _ HR.out.t Try.underlying55 rfl (size16 55 i55 _) ?_)
        | (refine wpList_store_row rfl 55 (.tmp 4) (.tmp 47) rfl (w.heap.size + 2) (arr 16 (upTo (mx a f) f (4 * 4))) rfl rfl 55 _ HR.out.c (size16 55 i55 _) (by rw [arr_size, arr_size]) (arr_one _ _) ?_))
      refine bodyPost_ret (results_cell_row (g := w.heap.size + 2) rfl _ _ 55 (arr 16 (upTo (mx a f) f (4 * 4))) (0, 0) _ rfl (HR.out.c.setRow _) Try.underlying55 rfl (size16 55 i55 _)) rfl ⟨?_, (HR.out.u.trans ((upd_setRow _ (w.heap.size + 2) _).below HR.out.u.size (by omega)))⟩
      rw [arr_congr (upTo_all (mx a f) f (4 * 4))]
end Go.Proofs.Ytlhakobfjokabaa
