/-
  The contracts of room, New and Len, for each of the three element types (printed by a program of mine).
-/
import Derived.Test.YtohjikijgcpnnaaTakes
import Derived.Deep.RegionWith
namespace Go.Proofs.Ytohjikijgcpnnaa
open Go.RowKit Go.Conc
/-- How much room a lane has. -/
def rm (n : Int) : Nat := (min (max n 0) 8).toNat
theorem rm_le (n : Int) : rm n ≤ 8 := by unfold rm; omega
theorem room_any (n : Int) (w : World) : Calls Try.prog 30 #[.int .i64 n] w fun e w' => e = .returned (.int .i64 (rm n : Nat)) ∧ w = w' := by
  by_cases h0 : n < 0
  · have H := Lib.hid (show ((rm n : Nat) : Int) = 0 by unfold rm; omega)
    go_enter Try.func30, Try.ntmps30
    go_wp2
    go_ret
    exact ⟨by rw [H.out]; rfl, rfl⟩
  · by_cases h8 : 8 < n
    · have H := Lib.hid (show ((rm n : Nat) : Int) = 8 by unfold rm; omega)
      go_enter Try.func30, Try.ntmps30
      go_wp2
      go_ret
      exact ⟨by rw [H.out]; rfl, rfl⟩
    · have H := Lib.hid (show ((rm n : Nat) : Int) = n by unfold rm; omega)
      go_enter Try.func30, Try.ntmps30
      go_wp2
      go_ret
      exact ⟨by rw [H.out]; rfl, rfl⟩
theorem upd_drew (S : Nat → Prop) (w : World) : Upd S w w.drew := ⟨rfl, rfl, rfl, Nat.le_refl _, fun _ _ _ => rfl⟩
theorem new_box (w : World) (a b : Nat) (t : TypeId) :
    Box (((w.alloc (.chan a #[] false 0 0 false)).alloc (.chan b #[] false 0 0 false)).alloc (.cells #[.chan (some w.heap.size), .chan (some (w.heap.size + 1))] t)).drew (w.heap.size + 1 + 1) w.heap.size (w.heap.size + 1) a b [] [] := by
  have z1 : (w.alloc (.chan a #[] false 0 0 false)).heap.size = w.heap.size + 1 := by simp
  have z2 : ((w.alloc (.chan a #[] false 0 0 false)).alloc (.chan b #[] false 0 0 false)).heap.size = w.heap.size + 1 + 1 := by simp
  have q := pair_cells ((w.alloc (.chan a #[] false 0 0 false)).alloc (.chan b #[] false 0 0 false)) (.chan (some w.heap.size)) (.chan (some (w.heap.size + 1))) t
  rw [z2] at q
  have hA : Lane (w.alloc (.chan a #[] false 0 0 false)) w.heap.size a [] := ⟨0, 0, heap_new w _⟩
  have hB : Lane ((w.alloc (.chan a #[] false 0 0 false)).alloc (.chan b #[] false 0 0 false)) (w.heap.size + 1) b [] := ⟨0, 0, by have := heap_new (w.alloc (.chan a #[] false 0 0 false)) (.chan b #[] false 0 0 false); rw [z1] at this; exact this⟩
  refine ⟨q.1, q.2.1, ?_, ?_, by omega, by omega, by omega⟩
  · exact ((hA.keep (upd_alloc (fun _ => False) _ _) (fun h => h)).keep (upd_alloc (fun _ => False) _ _) (fun h => h)).keep (upd_drew (fun _ => False) _) (fun h => h)
  · exact (hB.keep (upd_alloc (fun _ => False) _ _) (fun h => h)).keep (upd_drew (fun _ => False) _) (fun h => h)
theorem new_box2 (w : World) (a b : Nat) (t : TypeId) :
    Box (((w.alloc (.chan b #[] false 0 0 false)).alloc (.chan a #[] false 0 0 false)).alloc (.cells #[.chan (some (w.heap.size + 1)), .chan (some w.heap.size)] t)).drew (w.heap.size + 1 + 1) (w.heap.size + 1) w.heap.size a b [] [] := by
  have z1 : (w.alloc (.chan b #[] false 0 0 false)).heap.size = w.heap.size + 1 := by simp
  have z2 : ((w.alloc (.chan b #[] false 0 0 false)).alloc (.chan a #[] false 0 0 false)).heap.size = w.heap.size + 1 + 1 := by simp
  have q := pair_cells ((w.alloc (.chan b #[] false 0 0 false)).alloc (.chan a #[] false 0 0 false)) (.chan (some (w.heap.size + 1))) (.chan (some w.heap.size)) t
  rw [z2] at q
  have hA : Lane (w.alloc (.chan b #[] false 0 0 false)) w.heap.size b [] := ⟨0, 0, heap_new w _⟩
  have hB : Lane ((w.alloc (.chan b #[] false 0 0 false)).alloc (.chan a #[] false 0 0 false)) (w.heap.size + 1) a [] := ⟨0, 0, by have := heap_new (w.alloc (.chan b #[] false 0 0 false)) (.chan a #[] false 0 0 false); rw [z1] at this; exact this⟩
  refine ⟨q.1, q.2.1, ?_, ?_, by omega, by omega, by omega⟩
  · exact (hB.keep (upd_alloc (fun _ => False) _ _) (fun h => h)).keep (upd_drew (fun _ => False) _) (fun h => h)
  · exact ((hA.keep (upd_alloc (fun _ => False) _ _) (fun h => h)).keep (upd_alloc (fun _ => False) _ _) (fun h => h)).keep (upd_drew (fun _ => False) _) (fun h => h)
theorem new_below (w : World) (x y z : Obj) : Below w.heap.size w (((w.alloc x).alloc y).alloc z).drew :=
  ((((Below.refl _ _).alloc (Nat.le_refl _) _).alloc (by simp) _).alloc (by simp; omega) _).drew
theorem mk65 (n : Nat) (h : n ≤ 8) (w : World) : (Instr.makeChan 65 (.int .i64 (n : Int))).run Try.prog w = .ok (.chan (some w.heap.size)) (w.alloc (.chan n #[] false 0 0 false)) := by
  obtain ⟨i0, hi, hz0, hz1, hz2⟩ := info_parts (P := Try.prog) (e := 3) (z := .int .i64 0) (size := 1) (bytes := 8) (by kernel_rfl)
  exact run_makeChan (P := Try.prog) Try.underlying65 hi .i64 n (by omega) (by rw [hz2]; omega)
set_option maxHeartbeats 1000000 in
theorem i_new (u v : Int) (w : World) :
    Calls Try.prog 7 #[.int .i64 u, .int .i64 v] w fun e w' => ∃ B c0 c1, e = .returned (.pointer (some ⟨B, 0, none⟩)) ∧ Box w' B c0 c1 (rm u) (rm v) [] [] ∧ Below w.heap.size w w' ∧ w.heap.size ≤ B ∧ w.heap.size ≤ c0 ∧ w.heap.size ≤ c1 := by
  have h1 := fun w => mk65 (rm u) (rm_le u) w
  have h2 := fun w => mk65 (rm v) (rm_le v) w
  go_enter Try.func7, Try.ntmps7
  go_wp2_with fail
  go_region_with (go_at_call 30; refine (room_any _ _).mono ?_; rintro e w' ⟨rfl, rfl⟩)
  all_goals
    go_wp2
    go_ret
    first
      | exact ⟨_, _, _, rfl, new_box w (rm u) (rm v) 69, new_below w _ _ _, by omega, by omega, by omega⟩
      | exact ⟨_, _, _, rfl, new_box2 w (rm u) (rm v) 69, new_below w _ _ _, by omega, by omega, by omega⟩
theorem i_len {B c0 c1 k0 k1 : Nat} {l0 l1 : List Value} (w : World) (h : Box w B c0 c1 k0 k1 l0 l1) (h0 : l0.length ≤ 1000) (h1 : l1.length ≤ 1000) :
    Calls Try.prog 10 #[.pointer (some ⟨B, 0, none⟩)] w fun e w' => e = .returned (.int .i64 (l0.length + l1.length : Nat)) ∧ Upd (fun _ => False) w w' := by
  have p0 := h.p0
  have p1 := h.p1
  obtain ⟨s0, r0, a⟩ := h.a
  obtain ⟨s1, r1, b⟩ := h.b
  clear h
  have hl0 := fun ty => run_len_chan (P := Try.prog) (w := w.drew) 65 ty Try.underlying65 a
  have hl1 := fun ty => run_len_chan (P := Try.prog) (w := w.drew) 65 ty Try.underlying65 b
  clear a b
  go_enter Try.func10, Try.ntmps10
  go_wp2
  go_region
  all_goals
    go_wp2
    go_ret
    exact ⟨by rw [Int.natCast_add]; rfl, upd_drew _ _⟩
theorem mk72 (n : Nat) (h : n ≤ 8) (w : World) : (Instr.makeChan 72 (.int .i64 (n : Int))).run Try.prog w = .ok (.chan (some w.heap.size)) (w.alloc (.chan n #[] false 0 0 false)) := by
  obtain ⟨i0, hi, hz0, hz1, hz2⟩ := info_parts (P := Try.prog) (e := 9) (z := .string ⟨#[]⟩) (size := 1) (bytes := 16) (by kernel_rfl)
  exact run_makeChan (P := Try.prog) Try.underlying72 hi .i64 n (by omega) (by rw [hz2]; omega)
set_option maxHeartbeats 1000000 in
theorem s_new (u v : Int) (w : World) :
    Calls Try.prog 11 #[.int .i64 u, .int .i64 v] w fun e w' => ∃ B c0 c1, e = .returned (.pointer (some ⟨B, 0, none⟩)) ∧ Box w' B c0 c1 (rm u) (rm v) [] [] ∧ Below w.heap.size w w' ∧ w.heap.size ≤ B ∧ w.heap.size ≤ c0 ∧ w.heap.size ≤ c1 := by
  have h1 := fun w => mk72 (rm u) (rm_le u) w
  have h2 := fun w => mk72 (rm v) (rm_le v) w
  go_enter Try.func11, Try.ntmps11
  go_wp2_with fail
  go_region_with (go_at_call 30; refine (room_any _ _).mono ?_; rintro e w' ⟨rfl, rfl⟩)
  all_goals
    go_wp2
    go_ret
    first
      | exact ⟨_, _, _, rfl, new_box w (rm u) (rm v) 75, new_below w _ _ _, by omega, by omega, by omega⟩
      | exact ⟨_, _, _, rfl, new_box2 w (rm u) (rm v) 75, new_below w _ _ _, by omega, by omega, by omega⟩
theorem s_len {B c0 c1 k0 k1 : Nat} {l0 l1 : List Value} (w : World) (h : Box w B c0 c1 k0 k1 l0 l1) (h0 : l0.length ≤ 1000) (h1 : l1.length ≤ 1000) :
    Calls Try.prog 17 #[.pointer (some ⟨B, 0, none⟩)] w fun e w' => e = .returned (.int .i64 (l0.length + l1.length : Nat)) ∧ Upd (fun _ => False) w w' := by
  have p0 := h.p0
  have p1 := h.p1
  obtain ⟨s0, r0, a⟩ := h.a
  obtain ⟨s1, r1, b⟩ := h.b
  clear h
  have hl0 := fun ty => run_len_chan (P := Try.prog) (w := w.drew) 72 ty Try.underlying72 a
  have hl1 := fun ty => run_len_chan (P := Try.prog) (w := w.drew) 72 ty Try.underlying72 b
  clear a b
  go_enter Try.func17, Try.ntmps17
  go_wp2
  go_region
  all_goals
    go_wp2
    go_ret
    exact ⟨by rw [Int.natCast_add]; rfl, upd_drew _ _⟩
theorem mk76 (n : Nat) (h : n ≤ 8) (w : World) : (Instr.makeChan 76 (.int .i64 (n : Int))).run Try.prog w = .ok (.chan (some w.heap.size)) (w.alloc (.chan n #[] false 0 0 false)) := by
  obtain ⟨i0, hi, hz0, hz1, hz2⟩ := info_parts (P := Try.prog) (e := 39) (z := .agg #[.int .i64 0, .int .i64 0]) (size := 2) (bytes := 16) (by kernel_rfl)
  exact run_makeChan (P := Try.prog) Try.underlying76 hi .i64 n (by omega) (by rw [hz2]; omega)
set_option maxHeartbeats 1000000 in
theorem p_new (u v : Int) (w : World) :
    Calls Try.prog 12 #[.int .i64 u, .int .i64 v] w fun e w' => ∃ B c0 c1, e = .returned (.pointer (some ⟨B, 0, none⟩)) ∧ Box w' B c0 c1 (rm u) (rm v) [] [] ∧ Below w.heap.size w w' ∧ w.heap.size ≤ B ∧ w.heap.size ≤ c0 ∧ w.heap.size ≤ c1 := by
  have h1 := fun w => mk76 (rm u) (rm_le u) w
  have h2 := fun w => mk76 (rm v) (rm_le v) w
  go_enter Try.func12, Try.ntmps12
  go_wp2_with fail
  go_region_with (go_at_call 30; refine (room_any _ _).mono ?_; rintro e w' ⟨rfl, rfl⟩)
  all_goals
    go_wp2
    go_ret
    first
      | exact ⟨_, _, _, rfl, new_box w (rm u) (rm v) 79, new_below w _ _ _, by omega, by omega, by omega⟩
      | exact ⟨_, _, _, rfl, new_box2 w (rm u) (rm v) 79, new_below w _ _ _, by omega, by omega, by omega⟩
theorem p_len {B c0 c1 k0 k1 : Nat} {l0 l1 : List Value} (w : World) (h : Box w B c0 c1 k0 k1 l0 l1) (h0 : l0.length ≤ 1000) (h1 : l1.length ≤ 1000) :
    Calls Try.prog 19 #[.pointer (some ⟨B, 0, none⟩)] w fun e w' => e = .returned (.int .i64 (l0.length + l1.length : Nat)) ∧ Upd (fun _ => False) w w' := by
  have p0 := h.p0
  have p1 := h.p1
  obtain ⟨s0, r0, a⟩ := h.a
  obtain ⟨s1, r1, b⟩ := h.b
  clear h
  have hl0 := fun ty => run_len_chan (P := Try.prog) (w := w.drew) 76 ty Try.underlying76 a
  have hl1 := fun ty => run_len_chan (P := Try.prog) (w := w.drew) 76 ty Try.underlying76 b
  clear a b
  go_enter Try.func19, Try.ntmps19
  go_wp2
  go_region
  all_goals
    go_wp2
    go_ret
    exact ⟨by rw [Int.natCast_add]; rfl, upd_drew _ _⟩
end Go.Proofs.Ytohjikijgcpnnaa
