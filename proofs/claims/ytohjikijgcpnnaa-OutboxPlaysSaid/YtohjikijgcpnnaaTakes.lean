/-
  The contracts of Take and Len, for each of the three element types (printed by a program of mine).
-/
import Derived.Test.YtohjikijgcpnnaaPairs
namespace Go.Proofs.Ytohjikijgcpnnaa
open Go.RowKit Go.Conc
theorem i_take_a {B c0 c1 k0 k1 : Nat} {l0 l1 : List Value} (x : Int) (w : World) (h : Box w B c0 c1 k0 k1 (.int .i64 x :: l0) l1) :
    Calls Try.prog 9 #[.pointer (some ⟨B, 0, none⟩)] w fun e w' => e = .returned (.tuple #[.int .i64 x, .bool true]) ∧ Box w' B c0 c1 k0 k1 l0 l1 ∧ Upd (· = c0) w w' := by
  have i0 : ∀ w, (Instr.index 67 (.agg #[.chan (some c0), .chan (some c1)]) (.int .i64 0)).run Try.prog w = .ok (.chan (some c0)) w := fun _ => by kernel_rfl
  have i1 : ∀ w, (Instr.index 67 (.agg #[.chan (some c0), .chan (some c1)]) (.int .i64 1)).run Try.prog w = .ok (.chan (some c1)) w := fun _ => by kernel_rfl
  have h0 := h.p0
  have h1 := h.p1
  have HH := Lib.hid h; clear h
  go_enter Try.func9, Try.ntmps9
  go_wp2_with fail
  refine wp_loop_rounds 1 ?_
  rw [rounds_succ]
  go_wp2_with fail
  refine (i_take_some c0 k0 x l0 _ HH.out.a).mono ?_
  rintro e w1 ⟨rfl, hl, hu⟩
  go_wp2_with fail
  go_ret2
  exact ⟨rfl, HH.out.setA hu hl, hu⟩
theorem i_take_b {B c0 c1 k0 k1 : Nat} {l1 : List Value} (x : Int) (w : World) (h : Box w B c0 c1 k0 k1 [] (.int .i64 x :: l1)) :
    Calls Try.prog 9 #[.pointer (some ⟨B, 0, none⟩)] w fun e w' => e = .returned (.tuple #[.int .i64 x, .bool true]) ∧ Box w' B c0 c1 k0 k1 [] l1 ∧ Upd (· = c1) w w' := by
  have i0 : ∀ w, (Instr.index 67 (.agg #[.chan (some c0), .chan (some c1)]) (.int .i64 0)).run Try.prog w = .ok (.chan (some c0)) w := fun _ => by kernel_rfl
  have i1 : ∀ w, (Instr.index 67 (.agg #[.chan (some c0), .chan (some c1)]) (.int .i64 1)).run Try.prog w = .ok (.chan (some c1)) w := fun _ => by kernel_rfl
  have h0 := h.p0
  have h1 := h.p1
  have HH := Lib.hid h; clear h
  go_enter Try.func9, Try.ntmps9
  go_wp2_with fail
  refine wp_loop_rounds 2 ?_
  rw [rounds_succ]
  go_wp2_with fail
  refine (i_take_none c0 k0 _ HH.out.a).mono ?_
  rintro e w1 ⟨rfl, rfl⟩
  go_wp2_with fail
  rw [rounds_succ]
  go_wp2_with fail
  refine (i_take_some c1 k1 x l1 _ HH.out.b).mono ?_
  rintro e w1 ⟨rfl, hl, hu⟩
  go_wp2_with fail
  go_ret2
  exact ⟨rfl, HH.out.setB hu hl, hu⟩
theorem i_take_c {B c0 c1 k0 k1 : Nat} (w : World) (h : Box w B c0 c1 k0 k1 [] []) :
    Calls Try.prog 9 #[.pointer (some ⟨B, 0, none⟩)] w fun e w' => e = .returned (.tuple #[.int .i64 0, .bool false]) ∧ w = w' := by
  have i0 : ∀ w, (Instr.index 67 (.agg #[.chan (some c0), .chan (some c1)]) (.int .i64 0)).run Try.prog w = .ok (.chan (some c0)) w := fun _ => by kernel_rfl
  have i1 : ∀ w, (Instr.index 67 (.agg #[.chan (some c0), .chan (some c1)]) (.int .i64 1)).run Try.prog w = .ok (.chan (some c1)) w := fun _ => by kernel_rfl
  have h0 := h.p0
  have h1 := h.p1
  have HH := Lib.hid h; clear h
  go_enter Try.func9, Try.ntmps9
  go_wp2_with fail
  refine wp_loop_rounds 3 ?_
  rw [rounds_succ]
  go_wp2_with fail
  refine (i_take_none c0 k0 _ HH.out.a).mono ?_
  rintro e w1 ⟨rfl, rfl⟩
  go_wp2_with fail
  rw [rounds_succ]
  go_wp2_with fail
  refine (i_take_none c1 k1 _ HH.out.b).mono ?_
  rintro e w1 ⟨rfl, rfl⟩
  go_wp2_with fail
  rw [rounds_succ]
  go_wp2_with fail
  go_ret2
  exact ⟨rfl, rfl⟩
theorem s_take_a {B c0 c1 k0 k1 : Nat} {l0 l1 : List Value} (x : ByteArray) (w : World) (h : Box w B c0 c1 k0 k1 (.string x :: l0) l1) :
    Calls Try.prog 15 #[.pointer (some ⟨B, 0, none⟩)] w fun e w' => e = .returned (.tuple #[.string x, .bool true]) ∧ Box w' B c0 c1 k0 k1 l0 l1 ∧ Upd (· = c0) w w' := by
  have i0 : ∀ w, (Instr.index 73 (.agg #[.chan (some c0), .chan (some c1)]) (.int .i64 0)).run Try.prog w = .ok (.chan (some c0)) w := fun _ => by kernel_rfl
  have i1 : ∀ w, (Instr.index 73 (.agg #[.chan (some c0), .chan (some c1)]) (.int .i64 1)).run Try.prog w = .ok (.chan (some c1)) w := fun _ => by kernel_rfl
  have h0 := h.p0
  have h1 := h.p1
  have HH := Lib.hid h; clear h
  go_enter Try.func15, Try.ntmps15
  go_wp2_with fail
  refine wp_loop_rounds 1 ?_
  rw [rounds_succ]
  go_wp2_with fail
  refine (s_take_some c0 k0 x l0 _ HH.out.a).mono ?_
  rintro e w1 ⟨rfl, hl, hu⟩
  go_wp2_with fail
  go_ret2
  exact ⟨rfl, HH.out.setA hu hl, hu⟩
theorem s_take_b {B c0 c1 k0 k1 : Nat} {l1 : List Value} (x : ByteArray) (w : World) (h : Box w B c0 c1 k0 k1 [] (.string x :: l1)) :
    Calls Try.prog 15 #[.pointer (some ⟨B, 0, none⟩)] w fun e w' => e = .returned (.tuple #[.string x, .bool true]) ∧ Box w' B c0 c1 k0 k1 [] l1 ∧ Upd (· = c1) w w' := by
  have i0 : ∀ w, (Instr.index 73 (.agg #[.chan (some c0), .chan (some c1)]) (.int .i64 0)).run Try.prog w = .ok (.chan (some c0)) w := fun _ => by kernel_rfl
  have i1 : ∀ w, (Instr.index 73 (.agg #[.chan (some c0), .chan (some c1)]) (.int .i64 1)).run Try.prog w = .ok (.chan (some c1)) w := fun _ => by kernel_rfl
  have h0 := h.p0
  have h1 := h.p1
  have HH := Lib.hid h; clear h
  go_enter Try.func15, Try.ntmps15
  go_wp2_with fail
  refine wp_loop_rounds 2 ?_
  rw [rounds_succ]
  go_wp2_with fail
  refine (s_take_none c0 k0 _ HH.out.a).mono ?_
  rintro e w1 ⟨rfl, rfl⟩
  go_wp2_with fail
  rw [rounds_succ]
  go_wp2_with fail
  refine (s_take_some c1 k1 x l1 _ HH.out.b).mono ?_
  rintro e w1 ⟨rfl, hl, hu⟩
  go_wp2_with fail
  go_ret2
  exact ⟨rfl, HH.out.setB hu hl, hu⟩
theorem s_take_c {B c0 c1 k0 k1 : Nat} (w : World) (h : Box w B c0 c1 k0 k1 [] []) :
    Calls Try.prog 15 #[.pointer (some ⟨B, 0, none⟩)] w fun e w' => e = .returned (.tuple #[.string ⟨#[]⟩, .bool false]) ∧ w = w' := by
  have i0 : ∀ w, (Instr.index 73 (.agg #[.chan (some c0), .chan (some c1)]) (.int .i64 0)).run Try.prog w = .ok (.chan (some c0)) w := fun _ => by kernel_rfl
  have i1 : ∀ w, (Instr.index 73 (.agg #[.chan (some c0), .chan (some c1)]) (.int .i64 1)).run Try.prog w = .ok (.chan (some c1)) w := fun _ => by kernel_rfl
  have h0 := h.p0
  have h1 := h.p1
  have HH := Lib.hid h; clear h
  go_enter Try.func15, Try.ntmps15
  go_wp2_with fail
  refine wp_loop_rounds 3 ?_
  rw [rounds_succ]
  go_wp2_with fail
  refine (s_take_none c0 k0 _ HH.out.a).mono ?_
  rintro e w1 ⟨rfl, rfl⟩
  go_wp2_with fail
  rw [rounds_succ]
  go_wp2_with fail
  refine (s_take_none c1 k1 _ HH.out.b).mono ?_
  rintro e w1 ⟨rfl, rfl⟩
  go_wp2_with fail
  rw [rounds_succ]
  go_wp2_with fail
  go_ret2
  exact ⟨rfl, rfl⟩
end Go.Proofs.Ytohjikijgcpnnaa
