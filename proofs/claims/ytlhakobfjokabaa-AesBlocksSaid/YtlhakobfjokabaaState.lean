/-
  The contracts of a state's methods: add, through, turn, mix, read, write.
-/
import Derived.Test.YtlhakobfjokabaaArr
import Derived.StillTailTactics
namespace Go.Proofs.Ytlhakobfjokabaa
open Go.RowKit

theorem i55 : (Try.prog.info? 55).map (·.size) = some 16 := by kernel_rfl
/-- The first n are F's, the rest G's. -/
def upTo (F G : Nat → Nat) (n : Nat) : Nat → Nat := fun j => if j < n then F j else G j
theorem upTo_zero (F G : Nat → Nat) : upTo F G 0 = G := by funext j; simp [upTo]
theorem upTo_put (F G : Nat → Nat) (n : Nat) : put (upTo F G n) n (F n) = upTo F G (n + 1) := by
  funext j
  unfold put upTo
  by_cases h : j = n
  · subst h; simp
  · rw [if_neg h]
    by_cases h2 : j < n
    · rw [if_pos h2, if_pos (by omega)]
    · rw [if_neg h2, if_neg (by omega)]
theorem upTo_at (F G : Nat → Nat) (n : Nat) : upTo F G n n = G n := by unfold upTo; rw [if_neg (by omega)]
theorem upTo_all (F G : Nat → Nat) (n : Nat) : ∀ j, j < n → upTo F G n j = F j := fun j h => by unfold upTo; rw [if_pos h]
theorem zeros16 : (#[.int .u8 0, .int .u8 0, .int .u8 0, .int .u8 0, .int .u8 0, .int .u8 0, .int .u8 0, .int .u8 0, .int .u8 0, .int .u8 0, .int .u8 0, .int .u8 0, .int .u8 0, .int .u8 0, .int .u8 0, .int .u8 0] : Array Value) = arr 16 fun _ => 0 := by rfl

/-- What add has in memory. -/
structure AddR (w wr : World) (f g : Nat → Nat) (n : Nat) : Prop where
  a : Blk wr w.heap.size 55 16 (upTo (fun j => f j ^^^ g j) f n)
  b : Blk wr (w.heap.size + 1) 55 16 g
  c : Blk wr (w.heap.size + 2) 55 16 fun _ => 0
  u : Below w.heap.size w wr
theorem AddR.start (w : World) (f g : Nat → Nat) : AddR w (((w.alloc (.cells (arr 16 f) 55)).alloc (.cells (arr 16 g) 55)).alloc (.cells (arr 16 fun _ => 0) 55)) f g 0 := by
  refine ⟨?_, ?_, ?_, ((((Below.refl _ _).alloc (Nat.le_refl _) _).alloc (by simp) _).alloc (by simp; omega) _)⟩
  · rw [upTo_zero]; exact ((Blk.new w 55 16 f).alloc _).alloc _
  · have := (Blk.new (w.alloc (.cells (arr 16 f) 55)) 55 16 g).alloc (.cells (arr 16 fun _ => 0) 55)
    simpa using this
  · have := Blk.new ((w.alloc (.cells (arr 16 f) 55)).alloc (.cells (arr 16 g) 55)) 55 16 fun _ => 0
    simpa using this
theorem AddR.next {w wr : World} {f g : Nat → Nat} {n : Nat} (h : AddR w wr f g n) {o : Nat} (ho : o = n) {x : Nat} (hx : x = f n ^^^ g n) : AddR w (wr.setCell ⟨w.heap.size, o, none⟩ (.int .u8 x)).drew f g (n + 1) := by
  subst ho hx
  refine ⟨?_, (h.b.other (by simp) _).drew, (h.c.other (by simp) _).drew, below_drew (h.u.setCell (p := ⟨w.heap.size, o, none⟩) (Nat.le_refl _) _)⟩
  have := h.a.set o (f o ^^^ g o)
  rw [show put (upTo (fun j => f j ^^^ g j) f o) o (f o ^^^ g o) = upTo (fun j => f j ^^^ g j) f (o + 1) from upTo_put (fun j => f j ^^^ g j) f o] at this
  exact this

set_option maxHeartbeats 1000000 in
theorem add_any (f g : Nat → Nat) (w : World) (hf : ∀ j, f j < 256) (hg : ∀ j, g j < 256) :
    Calls Try.prog 27 #[.agg (arr 16 f), .agg (arr 16 g)] w fun e w' => e = .returned (.agg (arr 16 fun j => f j ^^^ g j)) ∧ Below w.heap.size w w' := by
  have HS := Lib.hid (AddR.start w f g)
  have HF := Lib.hid hf
  have HG := Lib.hid hg
  clear hf hg
  go_enter Try.func27, Try.ntmps27
  go_upto_region 1 with (fail)
  rw [zeros16]
  generalize World.alloc (World.alloc (World.alloc w _) _) _ = w1 at *
  go_wp2_with fail
  go_loopw [7] (fun i wr => ∃ n : Nat, n ≤ 4 ∧ i = .int .i64 n ∧ AddR w wr f g (4 * n)) (fun i _ => 4 - (intOf i).toNat)
  case atStart => exact ⟨0, by omega, rfl, HS.out⟩
  case round =>
    obtain ⟨n, hn, rfl, hr⟩ := hrel
    have HR := Lib.hid hr
    clear hr HS
    by_cases hn4 : n < 4
    · have hn0 : (n : Int) < 4 := by omega
      go_wp2_with fail
      go_loopw [10] (fun i wr => ∃ k : Nat, k ≤ 4 ∧ i = .int .i64 k ∧ AddR w wr f g (4 * n + k)) (fun i _ => 4 - (intOf i).toNat)
      case atStart => exact ⟨0, by omega, rfl, HR.out⟩
      case round =>
        obtain ⟨k, hk, rfl, hr⟩ := hrel
        have HR := Lib.hid hr
        rename_i wr
        by_cases hk4 : k < 4
        · have hj : n * 4 + k = 4 * n + k := by omega
          have c1 : wr.cell? ⟨w.heap.size, n * 4 + k, none⟩ = some (.int .u8 (f (4 * n + k) : Nat)) := by rw [hj, hr.a.cell (by omega), upTo_at]
          have c2 : wr.cell? ⟨w.heap.size + 1, n * 4 + k, none⟩ = some (.int .u8 (g (4 * n + k) : Nat)) := by rw [hj, hr.b.cell (by omega)]
          have c3 := hr.a.free (n * 4 + k)
          clear hj
          have hx : bits .xor .u8 (f (4 * n + k) : Int) (g (4 * n + k) : Int) = ((f (4 * n + k) ^^^ g (4 * n + k) : Nat) : Int) := u8_xor_nat _ _ (HF.out _) (HG.out _)
          clear hr
          go_upto_region 7 with (fail)
          have hk0 : (k : Int) < 4 := by omega
          go_still_tail 13, (by kernel_rfl)
          go_wp2_with fail
          go_roundw
          case rel => exact ⟨k + 1, by omega, by go_num, HR.out.next (by omega) rfl⟩
          case measure => simp [intOf]; omega
        · have hk9 : k = 4 := by omega
          subst hk9
          go_wp2_with fail
          go_roundw
          case rel => exact ⟨n + 1, by omega, by go_num, HR.out⟩
          case measure => simp [intOf]; omega
    · have hn9 : n = 4 := by omega
      subst hn9
      go_upto_region 10 with (fail)
      go_wp2_with (first
        | (refine wpList_load_row rfl 55 (.tmp 2) rfl w.heap.size rfl 55 (arr 16 (upTo (fun j => f j ^^^ g j) f (4 * 4))) (0, 0) _ HR.out.a Try.underlying55 rfl (size16 55 i55 _) ?_)
        | (refine wpList_store_row rfl 55 (.tmp 4) (.tmp 28) rfl (w.heap.size + 2) (arr 16 (upTo (fun j => f j ^^^ g j) f (4 * 4))) rfl rfl 55 _ HR.out.c (size16 55 i55 _) (by rw [arr_size, arr_size]) (arr_one _ _) ?_))
      refine bodyPost_ret (results_cell_row (g := w.heap.size + 2) rfl _ _ 55 (arr 16 (upTo (fun j => f j ^^^ g j) f (4 * 4))) (0, 0) _ rfl (HR.out.c.setRow _) Try.underlying55 rfl (size16 55 i55 _)) rfl ⟨?_, (HR.out.u.trans ((upd_setRow wr (w.heap.size + 2) _).below HR.out.u.size (by omega)))⟩
      rw [arr_congr (upTo_all (fun j => f j ^^^ g j) f (4 * 4))]
end Go.Proofs.Ytlhakobfjokabaa
