/-
  The contracts of Take for pairs, where the urgent lane is empty.
-/
import Derived.Test.YtohjikijgcpnnaaNews
namespace Go.Proofs.Ytohjikijgcpnnaa
open Go.RowKit Go.Conc

set_option maxRecDepth 20000 in
set_option maxHeartbeats 1000000 in
theorem p_take_b {B c0 c1 k0 k1 : Nat} {l1 : List Value} (x y : Int) (w : World) (h : Box w B c0 c1 k0 k1 [] (.agg #[.int .i64 x, .int .i64 y] :: l1)) :
    Calls Try.prog 18 #[.pointer (some ⟨B, 0, none⟩)] w fun e w' => e = .returned (.tuple #[.agg #[.int .i64 x, .int .i64 y], .bool true]) ∧ Box w' B c0 c1 k0 k1 [] l1 ∧ Upd (· = c1) w w' := by
  have i0 : ∀ w, (Instr.index 77 (.agg #[.chan (some c0), .chan (some c1)]) (.int .i64 0)).run Try.prog w = .ok (.chan (some c0)) w := fun _ => by kernel_rfl
  have i1 : ∀ w, (Instr.index 77 (.agg #[.chan (some c0), .chan (some c1)]) (.int .i64 1)).run Try.prog w = .ok (.chan (some c1)) w := fun _ => by kernel_rfl
  have hB : B < w.heap.size := cell_lt h.p0
  have h0 := h.p0
  have h1 := h.p1
  obtain ⟨q0, q1, q2, q3⟩ := pair_cells w (.int .i64 0) (.int .i64 0) 39
  have hb := h.keep (upd_alloc (fun _ => False) w (Obj.cells #[Value.int .i64 0, Value.int .i64 0] 39)) (fun h => h) (fun h => h) (fun h => h)
  have HW := Lib.hid (upd_alloc (· = c1) w (Obj.cells #[Value.int .i64 0, Value.int .i64 0] 39))
  have hz : w.heap.size < (w.alloc (Obj.cells #[Value.int .i64 0, Value.int .i64 0] 39)).heap.size := by simp
  have HL := Lib.hid (And.intro h.a.lt h.b.lt)
  clear h
  have HB := Lib.hid hb; clear hb
  have Q0 := Lib.hid q0
  have Q1 := Lib.hid q1
  have Q2 := Lib.hid q2
  have Q3 := Lib.hid q3
  have HZ := Lib.hid hz
  clear q0 q1 q2 q3 hz
  go_enter Try.func18, Try.ntmps18
  go_wp2_with fail
  clear h0 h1
  generalize World.alloc w (Obj.cells #[Value.int .i64 0, Value.int .i64 0] 39) = w1 at *
  refine wp_loop_rounds 2 ?_
  rw [rounds_succ]
  go_wp2_with fail
  refine (p_take_none c0 k0 _ HB.out.a).mono ?_
  rintro e w2 ⟨rfl, hu2⟩
  have HB2 := Lib.hid (HB.out.keep hu2 (fun h => h) (fun h => h) (fun h => h))
  have HU2 := Lib.hid (HW.out.trans (hu2.mono fun k _ f => f.elim))
  have hz1 := HZ.out
  have hz2 := hu2.size
  have q0 := hu2.cell Q0.out (fun h => h)
  have q1 := hu2.cell Q1.out (fun h => h)
  have q2 := (hu2.frozen (p := ⟨w.heap.size, 0, none⟩) hz1 (fun h => h)).trans Q2.out
  have q3 := (hu2.frozen (p := ⟨w.heap.size, 1, none⟩) hz1 (fun h => h)).trans Q3.out
  have HZ2 := Lib.hid (show w.heap.size < w2.heap.size by omega)
  have HQ0 := Lib.hid q0
  have HQ1 := Lib.hid q1
  have HQ2 := Lib.hid q2
  have HQ3 := Lib.hid q3
  clear hu2 hz1 hz2 q0 q1 q2 q3 Q0 Q1 Q2 Q3 HB HW HZ
  go_wp2_with fail
  rw [rounds_succ]
  go_wp2_with fail
  refine (p_take_some c1 k1 x y l1 _ (HB2.out.b.keep (upd_alloc (fun _ => False) _ _) (fun h => h))).mono ?_
  rintro e w3 ⟨rfl, hl3, hu3⟩
  have hne : ¬ w.heap.size = c1 := by have := HL.out; omega
  have ua := upd_alloc (fun _ => False) w2 (Obj.cells #[Value.int .i64 0, Value.int .i64 0] 39)
  have hza := ua.size
  have hz3 := hu3.size
  have hz2 := HZ2.out
  have q0 := hu3.cell (ua.cell HQ0.out (fun h => h)) hne
  have q1 := hu3.cell (ua.cell HQ1.out (fun h => h)) hne
  have q2 := (hu3.frozen (p := ⟨w.heap.size, 0, none⟩) (by show w.heap.size < _; omega) hne).trans ((ua.frozen (p := ⟨w.heap.size, 0, none⟩) hz2 (fun h => h)).trans HQ2.out)
  have q3 := (hu3.frozen (p := ⟨w.heap.size, 1, none⟩) (by show w.heap.size < _; omega) hne).trans ((ua.frozen (p := ⟨w.heap.size, 1, none⟩) hz2 (fun h => h)).trans HQ3.out)
  have hzz : w.heap.size < w3.heap.size := by omega
  have HB3 := Lib.hid ((HB2.out.keep ua (fun h => h) (fun h => h) (fun h => h)).setB hu3 hl3)
  have HU3 := Lib.hid (HU2.out.trans ((ua.mono fun k _ f => f.elim).trans hu3))
  have HN := Lib.hid hne
  clear ua hza hz3 hz2 hl3 hu3 HQ0 HQ1 HQ2 HQ3 HB2 HU2 HZ2 hne
  go_wp2_with fail
  have hL := HL.out
  refine bodyPost_ret (v := .tuple #[.agg #[.int .i64 x, .int .i64 y], .bool true]) (by simp [results, Try.results18, go_sem, hzz, q0, q1]) rfl ⟨rfl, ?_, ((HU3.out.setNew (p := ⟨w.heap.size, 0, none⟩) (Nat.le_refl _) _).setNew (p := ⟨w.heap.size, 1, none⟩) (Nat.le_refl _) _).allocNew _⟩
  refine ((HB3.out.keep (upd_setCell _ ⟨w.heap.size, 0, none⟩ _) ?_ ?_ ?_).keep (upd_setCell _ ⟨w.heap.size, 1, none⟩ _) ?_ ?_ ?_).keep (upd_alloc (fun _ => False) _ _) (fun h => h) (fun h => h) (fun h => h)
  · show ¬ B = w.heap.size
    omega
  · show ¬ c0 = w.heap.size
    omega
  · show ¬ c1 = w.heap.size
    omega
  · show ¬ B = w.heap.size
    omega
  · show ¬ c0 = w.heap.size
    omega
  · show ¬ c1 = w.heap.size
    omega
end Go.Proofs.Ytohjikijgcpnnaa
