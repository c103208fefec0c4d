/-
  The contracts of take and Put for pairs.
-/
import Derived.Test.YtohjikijgcpnnaaLanes
namespace Go.Proofs.Ytohjikijgcpnnaa
open Go.RowKit Go.Conc
theorem heap_new (w : World) (o : Obj) : (w.alloc o).heap[w.heap.size]? = some o := by
  show (w.heap.push o)[w.heap.size]? = _
  simp
theorem upd_alloc (S : Nat → Prop) (w : World) (o : Obj) : Upd S w (w.alloc o) := upd_of_below ((Below.refl _ _).alloc (Nat.le_refl _) _)
theorem Upd.frozen {S : Nat → Prop} {w w' : World} (hu : Upd S w w') {p : Addr} (h : p.block < w.heap.size) (hn : ¬ S p.block) : w'.frozen? p = w.frozen? p :=
  World.frozen?_of_block (w := w) (hu.block p.block h hn)
/-- A new pair's cells. -/
theorem pair_cells (w : World) (a b : Value) (t : TypeId) : (w.alloc (.cells #[a, b] t)).cell? ⟨w.heap.size, 0, none⟩ = some a ∧ (w.alloc (.cells #[a, b] t)).cell? ⟨w.heap.size, 1, none⟩ = some b ∧ (w.alloc (.cells #[a, b] t)).frozen? ⟨w.heap.size, 0, none⟩ = false ∧ (w.alloc (.cells #[a, b] t)).frozen? ⟨w.heap.size, 1, none⟩ = false := by
  refine ⟨?_, ?_, ?_, ?_⟩
  · rw [World.cell?_alloc_mark]; rfl
  · rw [World.cell?_alloc_mark]; rfl
  · rw [World.frozen?_alloc_mark]; simp
  · rw [World.frozen?_alloc_mark]; simp
theorem upd_setCell (w : World) (p : Addr) (v : Value) : Upd (· = p.block) w (w.setCell p v) := ⟨rfl, rfl, rfl, by simp [World.setCell], fun k _ hn => Below.heap_setCell _ _ _ _ hn⟩
theorem Upd.setNew {S : Nat → Prop} {w w2 : World} (hu : Upd S w w2) {p : Addr} (h : w.heap.size ≤ p.block) (v : Value) : Upd S w (w2.setCell p v) :=
  ⟨hu.os, hu.tape, hu.output, by simp [World.setCell]; exact hu.size, fun k hk hn => (Below.heap_setCell _ _ _ _ (by omega)).trans (hu.block k hk hn)⟩
theorem Upd.allocNew {S : Nat → Prop} {w w2 : World} (hu : Upd S w w2) (o : Obj) : Upd S w (w2.alloc o) := hu.trans (upd_alloc S w2 o)
theorem p_take_none (c k : Nat) (w : World) (hc : Lane w c k []) :
    Calls Try.prog 36 #[.chan (some c)] w fun e w' => e = .returned (.tuple #[.agg #[.int .i64 0, .int .i64 0], .bool false]) ∧ Upd (fun _ => False) w w' := by
  go_enter Try.func36, Try.ntmps36
  go_upto_region 2 with (fail)
  have hu := upd_alloc (fun _ => False) w (Obj.cells #[Value.int .i64 0, Value.int .i64 0] 39)
  obtain ⟨s, r, hc⟩ := hc.keep hu (fun h => h)
  have HC := Lib.hid hc; clear hc
  refine wp_region_steps 1 (fun b k cs => Steps.one (step_none (i := 0) (c := c) (z := .agg #[.int .i64 0, .int .i64 0]) rfl rfl (by simp [go_sem, execOp, rcase, Act.eval]) HC.out)) ?_
  go_wp2
  refine bodyPost_ret (v := .tuple #[.agg #[.int .i64 0, .int .i64 0], .bool false]) (by simp [results, Try.results36, go_sem]) rfl ⟨rfl, hu.trans (upd_alloc _ _ _)⟩
theorem p_take_some (c k : Nat) (x y : Int) (l : List Value) (w : World) (hc : Lane w c k ((.agg #[.int .i64 x, .int .i64 y]) :: l)) :
    Calls Try.prog 36 #[.chan (some c)] w fun e w' => e = .returned (.tuple #[.agg #[.int .i64 x, .int .i64 y], .bool true]) ∧ Lane w' c k l ∧ Upd (· = c) w w' := by
  have HS := Lib.hid (show ((Value.agg #[.int .i64 x, .int .i64 y]) :: l).toArray.extract 1 ((Value.agg #[.int .i64 x, .int .i64 y]) :: l).toArray.size = l.toArray by simp)
  have hcw := hc.lt
  go_enter Try.func36, Try.ntmps36
  go_upto_region 2 with (fail)
  have hu := upd_alloc (· = c) w (Obj.cells #[Value.int .i64 0, Value.int .i64 0] 39)
  obtain ⟨s, r, hc⟩ := hc.keep (upd_alloc (fun _ => False) w (Obj.cells #[Value.int .i64 0, Value.int .i64 0] 39)) (fun h => h)
  have HC := Lib.hid hc; clear hc
  obtain ⟨q0, q1, q2, q3⟩ := pair_cells w (.int .i64 0) (.int .i64 0) 39
  refine wp_region_steps 1 (fun b k cs => Steps.one (step_recv (i := 0) (c := c) (z := .agg #[.int .i64 0, .int .i64 0]) rfl rfl (by simp [go_sem, execOp, rcase, Act.eval]) HC.out (by simp))) ?_
  rw [HS.out]
  have hu2 := upd_setChan (w.alloc (Obj.cells #[Value.int .i64 0, Value.int .i64 0] 39)) c k l.toArray false s (r + 1)
  have hl : Lane (World.setChan (w.alloc (Obj.cells #[Value.int .i64 0, Value.int .i64 0] 39)) c k l.toArray false s (r + 1) false) c k l := ⟨_, _, heap_setChan _ _ _ _ _ _ _ _ (heap_lt HC.out)⟩
  have hsz : (World.setChan (w.alloc (Obj.cells #[Value.int .i64 0, Value.int .i64 0] 39)) c k l.toArray false s (r + 1) false).heap.size = w.heap.size + 1 := by simp [World.setChan]
  have hne : w.heap.size ≠ c := by omega
  have c0 := hu2.cell q0 hne
  have c1 := hu2.cell q1 hne
  have f0 := hu2.frozen (p := ⟨w.heap.size, 0, none⟩) (by simp) hne
  have f1 := hu2.frozen (p := ⟨w.heap.size, 1, none⟩) (by simp) hne
  rw [q2] at f0
  rw [q3] at f1
  have HU := Lib.hid (hu.trans hu2)
  have HL := Lib.hid hl
  have HZ := Lib.hid hsz
  have hsz2 : w.heap.size < (World.setChan (w.alloc (Obj.cells #[Value.int .i64 0, Value.int .i64 0] 39)) c k l.toArray false s (r + 1) false).heap.size := by omega
  clear hu hu2 hl hsz q0 q1 q2 q3
  generalize World.setChan (w.alloc (Obj.cells #[Value.int .i64 0, Value.int .i64 0] 39)) c k l.toArray false s (r + 1) false = w2 at *
  go_wp2
  refine bodyPost_ret (v := .tuple #[.agg #[.int .i64 x, .int .i64 y], .bool true]) (by simp [results, Try.results36, go_sem, HZ.out, c0, c1]) rfl ⟨rfl, ?_, ((HU.out.setNew (p := ⟨w.heap.size, 0, none⟩) (Nat.le_refl _) _).setNew (p := ⟨w.heap.size, 1, none⟩) (Nat.le_refl _) _).allocNew _⟩
  refine ((HL.out.keep (upd_setCell w2 ⟨w.heap.size, 0, none⟩ _) ?_).keep (upd_setCell _ ⟨w.heap.size, 1, none⟩ _) ?_).keep (upd_alloc (fun _ => False) _ _) (fun h => h)
  · show ¬ c = w.heap.size
    omega
  · show ¬ c = w.heap.size
    omega
theorem p_put_full_f {B c0 c1 k0 k1 : Nat} {l0 l1 : List Value} (x y : Int) (w : World) (h : Box w B c0 c1 k0 k1 l0 l1) (hf : k1 ≤ l1.length) :
    Calls Try.prog 14 #[.pointer (some ⟨B, 0, none⟩), .agg #[.int .i64 x, .int .i64 y], .bool false] w fun e w' => e = .returned (.int .i64 9) ∧ Upd (fun _ => False) w w' := by
  have hu := upd_alloc (fun _ => False) w (Obj.cells #[Value.int .i64 x, Value.int .i64 y] 39)
  have h := h.keep hu (fun h => h) (fun h => h) (fun h => h)
  obtain ⟨s, r, hc⟩ := h.b
  have HC := Lib.hid hc; clear hc
  have HH := Lib.hid h; clear h
  go_enter Try.func14, Try.ntmps14
  go_upto_region 3 with (fail)
  refine (p_lane_f _ HH.out).mono ?_
  rintro e w' ⟨rfl, rfl⟩
  go_upto_region 3 with (fail)
  refine wp_region_steps 1 (fun b k cs => Steps.one (step_full (i := 0) (c := c1) (v := .agg #[.int .i64 x, .int .i64 y]) (z := .agg #[.int .i64 0, .int .i64 0]) rfl rfl (by simp [go_sem, execOp, scase, Act.eval]) HC.out (by simpa using hf))) ?_
  go_wp2
  go_ret
  exact ⟨rfl, hu⟩
theorem p_put_room_f {B c0 c1 k0 k1 : Nat} {l0 l1 : List Value} (x y : Int) (w : World) (h : Box w B c0 c1 k0 k1 l0 l1) (hf : l1.length < k1) :
    Calls Try.prog 14 #[.pointer (some ⟨B, 0, none⟩), .agg #[.int .i64 x, .int .i64 y], .bool false] w fun e w' => e = .returned (.int .i64 0) ∧ Box w' B c0 c1 k0 k1 l0 (l1 ++ [.agg #[.int .i64 x, .int .i64 y]]) ∧ Upd (· = c1) w w' := by
  have hua := upd_alloc (· = c1) w (Obj.cells #[Value.int .i64 x, Value.int .i64 y] 39)
  have h := h.keep (upd_alloc (fun _ => False) w (Obj.cells #[Value.int .i64 x, Value.int .i64 y] 39)) (fun h => h) (fun h => h) (fun h => h)
  obtain ⟨s, r, hc⟩ := h.b
  have HC := Lib.hid hc; clear hc
  have HH := Lib.hid h; clear h
  have HS := Lib.hid (show l1.toArray.push (.agg #[.int .i64 x, .int .i64 y]) = (l1 ++ [(.agg #[.int .i64 x, .int .i64 y] : Value)]).toArray by simp)
  go_enter Try.func14, Try.ntmps14
  go_upto_region 3 with (fail)
  refine (p_lane_f _ HH.out).mono ?_
  rintro e w' ⟨rfl, rfl⟩
  go_upto_region 3 with (fail)
  refine wp_region_steps 1 (fun b k cs => Steps.one (step_send (i := 0) (c := c1) (v := .agg #[.int .i64 x, .int .i64 y]) (z := .agg #[.int .i64 0, .int .i64 0]) rfl rfl (by simp [go_sem, execOp, scase, Act.eval]) HC.out (by simpa using hf))) ?_
  rw [HS.out]
  generalize hwa : World.alloc w (Obj.cells #[Value.int .i64 x, Value.int .i64 y] 39) = wa at *
  have HWA := Lib.hid hwa; clear hwa
  have hu := Lib.hid (upd_setChan wa c1 k1 (l1 ++ [(.agg #[.int .i64 x, .int .i64 y] : Value)]).toArray false (s + 1) r)
  have hb := Lib.hid (heap_setChan wa c1 k1 (l1 ++ [(.agg #[.int .i64 x, .int .i64 y] : Value)]).toArray false (s + 1) r false (heap_lt HC.out))
  generalize World.setChan wa c1 k1 (l1 ++ [(.agg #[.int .i64 x, .int .i64 y] : Value)]).toArray false (s + 1) r false = w2 at *
  go_wp2
  go_ret
  exact ⟨rfl, HH.out.setB hu.out ⟨_, _, hb.out⟩, hua.trans hu.out⟩
end Go.Proofs.Ytohjikijgcpnnaa
