/-
  The reference outbox: two lists in memory, held by value.
-/
import Derived.Test.YtohjikijgcpnnaaPAll
import Derived.Deep.QuietTactic
import Derived.BigQuiet
import Derived.Deep.DeepCutAuto
import Derived.Deep.RegionHeld3
namespace Go.Proofs.Ytohjikijgcpnnaa
open Go.RowKit Go.Conc

theorem l_lane_t (w : World) : Calls Try.prog 37 #[.bool true] w fun e w' => e = .returned (.int .i64 0) ∧ w = w' := by
  go_enter Try.func37, Try.ntmps37
  go_wp2_with fail
  go_ret
  exact ⟨rfl, rfl⟩
theorem l_lane_f (w : World) : Calls Try.prog 37 #[.bool false] w fun e w' => e = .returned (.int .i64 1) ∧ w = w' := by
  go_enter Try.func37, Try.ntmps37
  go_wp2_with fail
  go_ret
  exact ⟨rfl, rfl⟩
/-- The cells of a new block. -/
theorem four_cells (w : World) (a b c d : Value) (t : TypeId) : (w.alloc (.cells #[a, b, c, d] t)).cell? ⟨w.heap.size, 0, none⟩ = some a ∧ (w.alloc (.cells #[a, b, c, d] t)).cell? ⟨w.heap.size, 1, none⟩ = some b ∧ (w.alloc (.cells #[a, b, c, d] t)).cell? ⟨w.heap.size, 2, none⟩ = some c ∧ (w.alloc (.cells #[a, b, c, d] t)).cell? ⟨w.heap.size, 3, none⟩ = some d := by
  refine ⟨?_, ?_, ?_, ?_⟩ <;> (rw [World.cell?_alloc_mark]; rfl)
theorem r_len (p0 : Option Addr) (n0 q0 : Nat) (p1 : Option Addr) (n1 q1 : Nat) (m0 m1 : Int) (w : World) (h0 : n0 ≤ 1000) (h1 : n1 ≤ 1000) :
    Calls Try.prog 27 #[.agg #[.slice p0 n0 q0, .slice p1 n1 q1, .int .i64 m0, .int .i64 m1]] w fun e w' => e = .returned (.int .i64 (n0 + n1 : Nat)) ∧ Below w.heap.size w w' := by
  obtain ⟨x0, x1, x2, x3⟩ := four_cells w (.slice p0 n0 q0) (.slice p1 n1 q1) (.int .i64 m0) (.int .i64 m1) 53
  have HB := Lib.hid ((Below.refl w.heap.size w).alloc (Nat.le_refl _) (Obj.cells #[.slice p0 n0 q0, .slice p1 n1 q1, .int .i64 m0, .int .i64 m1] 53))
  go_enter Try.func27, Try.ntmps27
  go_wp2_with fail
  go_ret
  exact ⟨by rw [Int.natCast_add]; rfl, HB.out⟩
theorem below_drewN2 (B : Nat) (w : World) (n : Nat) : Below B w (w.drewN n) := ⟨rfl, rfl, rfl, Nat.le_refl _, fun _ _ => rfl⟩
theorem r_room_t (p0 : Option Addr) (n0 q0 : Nat) (p1 : Option Addr) (n1 q1 : Nat) (m0 m1 : Nat) (w : World) (h0 : n0 ≤ 1000) (h1 : m0 ≤ 8) :
    Calls Try.prog 29 #[.agg #[.slice p0 n0 q0, .slice p1 n1 q1, .int .i64 m0, .int .i64 m1], .bool true] w fun e w' => e = .returned (.int .i64 ((m0 : Int) - n0)) ∧ Below w.heap.size w w' := by
  obtain ⟨x0, x1, x2, x3⟩ := four_cells w (.slice p0 n0 q0) (.slice p1 n1 q1) (.int .i64 m0) (.int .i64 m1) 53
  have HB := Lib.hid ((Below.refl w.heap.size w).alloc (Nat.le_refl _) (Obj.cells #[.slice p0 n0 q0, .slice p1 n1 q1, .int .i64 m0, .int .i64 m1] 53))
  go_enter Try.func29, Try.ntmps29
  go_wp2_with fail
  go_quiet ((go_at_call 37; exact Calls.quiet_of_same ((l_lane_t _).mono fun _ _ ⟨a, b⟩ => ⟨a, b.symm⟩)))
  go_wp2_with fail
  go_ret
  exact ⟨rfl, HB.out.trans (below_drewN2 _ _ _)⟩
theorem r_room_f (p0 : Option Addr) (n0 q0 : Nat) (p1 : Option Addr) (n1 q1 : Nat) (m0 m1 : Nat) (w : World) (h0 : n1 ≤ 1000) (h1 : m1 ≤ 8) :
    Calls Try.prog 29 #[.agg #[.slice p0 n0 q0, .slice p1 n1 q1, .int .i64 m0, .int .i64 m1], .bool false] w fun e w' => e = .returned (.int .i64 ((m1 : Int) - n1)) ∧ Below w.heap.size w w' := by
  obtain ⟨x0, x1, x2, x3⟩ := four_cells w (.slice p0 n0 q0) (.slice p1 n1 q1) (.int .i64 m0) (.int .i64 m1) 53
  have HB := Lib.hid ((Below.refl w.heap.size w).alloc (Nat.le_refl _) (Obj.cells #[.slice p0 n0 q0, .slice p1 n1 q1, .int .i64 m0, .int .i64 m1] 53))
  go_enter Try.func29, Try.ntmps29
  go_wp2_with fail
  go_quiet ((go_at_call 37; exact Calls.quiet_of_same ((l_lane_f _).mono fun _ _ ⟨a, b⟩ => ⟨a, b.symm⟩)))
  go_wp2_with fail
  go_ret
  exact ⟨rfl, HB.out.trans (below_drewN2 _ _ _)⟩
theorem r_new (u v : Int) (w : World) : Calls Try.prog 21 #[.int .i64 u, .int .i64 v] w fun e w' => e = .returned (.agg #[.slice none 0 0, .slice none 0 0, .int .i64 (rm u : Nat), .int .i64 (rm v : Nat)]) ∧ Below w.heap.size w w' := by
  go_enter Try.func21, Try.ntmps21
  go_wp2_with fail
  all_goals
    refine bodyPost_ret (v := .agg #[.slice none 0 0, .slice none 0 0, .int .i64 (rm u : Nat), .int .i64 (rm v : Nat)]) ?_ rfl ⟨rfl, (Below.refl _ _).alloc (Nat.le_refl _) _⟩
    simp [results, Try.results21, go_sem, four_cells]
    unfold rm
    omega
end Go.Proofs.Ytohjikijgcpnnaa
