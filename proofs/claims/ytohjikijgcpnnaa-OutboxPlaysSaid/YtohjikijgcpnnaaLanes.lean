/-
  The contracts of lane, take and Put, for each of the three element types (printed by a program of mine).
-/
import Derived.Test.YtohjikijgcpnnaaBox
namespace Go.Proofs.Ytohjikijgcpnnaa
open Go.RowKit Go.Conc
theorem i_lane_t {B c0 c1 k0 k1 : Nat} {l0 l1 : List Value} (w : World) (h : Box w B c0 c1 k0 k1 l0 l1) :
    Calls Try.prog 31 #[.pointer (some ⟨B, 0, none⟩), .bool true] w fun e w' => e = .returned (.chan (some c0)) ∧ w = w' := by
  have h0 := h.p0
  clear h
  go_enter Try.func31, Try.ntmps31
  go_wp2
  go_ret
  exact ⟨rfl, rfl⟩
theorem i_lane_f {B c0 c1 k0 k1 : Nat} {l0 l1 : List Value} (w : World) (h : Box w B c0 c1 k0 k1 l0 l1) :
    Calls Try.prog 31 #[.pointer (some ⟨B, 0, none⟩), .bool false] w fun e w' => e = .returned (.chan (some c1)) ∧ w = w' := by
  have h0 := h.p1
  clear h
  go_enter Try.func31, Try.ntmps31
  go_wp2
  go_ret
  exact ⟨rfl, rfl⟩
theorem i_take_none (c k : Nat) (w : World) (hc : Lane w c k []) :
    Calls Try.prog 32 #[.chan (some c)] w fun e w' => e = .returned (.tuple #[.int .i64 0, .bool false]) ∧ w = w' := by
  obtain ⟨s, r, hc⟩ := hc
  have HC := Lib.hid hc; clear hc
  go_enter Try.func32, Try.ntmps32
  go_upto_region 2 with (fail)
  refine wp_region_steps 1 (fun b k cs => Steps.one (step_none (i := 0) (c := c) (z := .int .i64 0) rfl rfl (by simp [go_sem, execOp, rcase, Act.eval]) HC.out)) ?_
  go_wp2
  go_ret2
  exact ⟨rfl, rfl⟩
theorem i_take_some (c k : Nat) (x : Int) (l : List Value) (w : World) (hc : Lane w c k (.int .i64 x :: l)) :
    Calls Try.prog 32 #[.chan (some c)] w fun e w' => e = .returned (.tuple #[.int .i64 x, .bool true]) ∧ Lane w' c k l ∧ Upd (· = c) w w' := by
  obtain ⟨s, r, hc⟩ := hc
  have HC := Lib.hid hc; clear hc
  have HS := Lib.hid (show ((.int .i64 x : Value) :: l).toArray.extract 1 ((.int .i64 x : Value) :: l).toArray.size = l.toArray by simp)
  go_enter Try.func32, Try.ntmps32
  go_upto_region 2 with (fail)
  refine wp_region_steps 1 (fun b k cs => Steps.one (step_recv (i := 0) (c := c) (z := .int .i64 0) rfl rfl (by simp [go_sem, execOp, rcase, Act.eval]) HC.out (by simp))) ?_
  rw [HS.out]
  go_wp2
  go_ret2
  exact ⟨rfl, ⟨_, _, heap_setChan _ _ _ _ _ _ _ _ (heap_lt HC.out)⟩, upd_setChan _ _ _ _ _ _ _⟩
theorem i_put_full_t {B c0 c1 k0 k1 : Nat} {l0 l1 : List Value} (x : Int) (w : World) (h : Box w B c0 c1 k0 k1 l0 l1) (hf : k0 ≤ l0.length) :
    Calls Try.prog 8 #[.pointer (some ⟨B, 0, none⟩), .int .i64 x, .bool true] w fun e w' => e = .returned (.int .i64 9) ∧ w = w' := by
  obtain ⟨s, r, hc⟩ := h.a
  have HC := Lib.hid hc; clear hc
  have HH := Lib.hid h; clear h
  go_enter Try.func8, Try.ntmps8
  go_upto_region 3 with (fail)
  refine (i_lane_t _ HH.out).mono ?_
  rintro e w' ⟨rfl, rfl⟩
  go_upto_region 3 with (fail)
  refine wp_region_steps 1 (fun b k cs => Steps.one (step_full (i := 0) (c := c0) (v := .int .i64 x) (z := .int .i64 0) rfl rfl (by simp [go_sem, execOp, scase, Act.eval]) HC.out (by simpa using hf))) ?_
  go_wp2
  go_ret
  exact ⟨rfl, rfl⟩
theorem i_put_room_t {B c0 c1 k0 k1 : Nat} {l0 l1 : List Value} (x : Int) (w : World) (h : Box w B c0 c1 k0 k1 l0 l1) (hf : l0.length < k0) :
    Calls Try.prog 8 #[.pointer (some ⟨B, 0, none⟩), .int .i64 x, .bool true] w fun e w' => e = .returned (.int .i64 0) ∧ Box w' B c0 c1 k0 k1 (l0 ++ [.int .i64 x]) l1 ∧ Upd (· = c0) w w' := by
  obtain ⟨s, r, hc⟩ := h.a
  have HC := Lib.hid hc; clear hc
  have HH := Lib.hid h; clear h
  have HS := Lib.hid (show l0.toArray.push (.int .i64 x) = (l0 ++ [(.int .i64 x : Value)]).toArray by simp)
  go_enter Try.func8, Try.ntmps8
  go_upto_region 3 with (fail)
  refine (i_lane_t _ HH.out).mono ?_
  rintro e w' ⟨rfl, rfl⟩
  go_upto_region 3 with (fail)
  refine wp_region_steps 1 (fun b k cs => Steps.one (step_send (i := 0) (c := c0) (v := .int .i64 x) (z := .int .i64 0) rfl rfl (by simp [go_sem, execOp, scase, Act.eval]) HC.out (by simpa using hf))) ?_
  rw [HS.out]
  have hu := Lib.hid (upd_setChan w c0 k0 (l0 ++ [(.int .i64 x : Value)]).toArray false (s + 1) r)
  have hb := Lib.hid (heap_setChan w c0 k0 (l0 ++ [(.int .i64 x : Value)]).toArray false (s + 1) r false (heap_lt HC.out))
  generalize World.setChan w c0 k0 (l0 ++ [(.int .i64 x : Value)]).toArray false (s + 1) r false = w2 at *
  go_wp2
  go_ret
  exact ⟨rfl, HH.out.setA hu.out ⟨_, _, hb.out⟩, hu.out⟩
theorem i_put_full_f {B c0 c1 k0 k1 : Nat} {l0 l1 : List Value} (x : Int) (w : World) (h : Box w B c0 c1 k0 k1 l0 l1) (hf : k1 ≤ l1.length) :
    Calls Try.prog 8 #[.pointer (some ⟨B, 0, none⟩), .int .i64 x, .bool false] w fun e w' => e = .returned (.int .i64 9) ∧ w = w' := by
  obtain ⟨s, r, hc⟩ := h.b
  have HC := Lib.hid hc; clear hc
  have HH := Lib.hid h; clear h
  go_enter Try.func8, Try.ntmps8
  go_upto_region 3 with (fail)
  refine (i_lane_f _ HH.out).mono ?_
  rintro e w' ⟨rfl, rfl⟩
  go_upto_region 3 with (fail)
  refine wp_region_steps 1 (fun b k cs => Steps.one (step_full (i := 0) (c := c1) (v := .int .i64 x) (z := .int .i64 0) rfl rfl (by simp [go_sem, execOp, scase, Act.eval]) HC.out (by simpa using hf))) ?_
  go_wp2
  go_ret
  exact ⟨rfl, rfl⟩
theorem i_put_room_f {B c0 c1 k0 k1 : Nat} {l0 l1 : List Value} (x : Int) (w : World) (h : Box w B c0 c1 k0 k1 l0 l1) (hf : l1.length < k1) :
    Calls Try.prog 8 #[.pointer (some ⟨B, 0, none⟩), .int .i64 x, .bool false] w fun e w' => e = .returned (.int .i64 0) ∧ Box w' B c0 c1 k0 k1 l0 (l1 ++ [.int .i64 x]) ∧ Upd (· = c1) w w' := by
  obtain ⟨s, r, hc⟩ := h.b
  have HC := Lib.hid hc; clear hc
  have HH := Lib.hid h; clear h
  have HS := Lib.hid (show l1.toArray.push (.int .i64 x) = (l1 ++ [(.int .i64 x : Value)]).toArray by simp)
  go_enter Try.func8, Try.ntmps8
  go_upto_region 3 with (fail)
  refine (i_lane_f _ HH.out).mono ?_
  rintro e w' ⟨rfl, rfl⟩
  go_upto_region 3 with (fail)
  refine wp_region_steps 1 (fun b k cs => Steps.one (step_send (i := 0) (c := c1) (v := .int .i64 x) (z := .int .i64 0) rfl rfl (by simp [go_sem, execOp, scase, Act.eval]) HC.out (by simpa using hf))) ?_
  rw [HS.out]
  have hu := Lib.hid (upd_setChan w c1 k1 (l1 ++ [(.int .i64 x : Value)]).toArray false (s + 1) r)
  have hb := Lib.hid (heap_setChan w c1 k1 (l1 ++ [(.int .i64 x : Value)]).toArray false (s + 1) r false (heap_lt HC.out))
  generalize World.setChan w c1 k1 (l1 ++ [(.int .i64 x : Value)]).toArray false (s + 1) r false = w2 at *
  go_wp2
  go_ret
  exact ⟨rfl, HH.out.setB hu.out ⟨_, _, hb.out⟩, hu.out⟩
theorem s_lane_t {B c0 c1 k0 k1 : Nat} {l0 l1 : List Value} (w : World) (h : Box w B c0 c1 k0 k1 l0 l1) :
    Calls Try.prog 33 #[.pointer (some ⟨B, 0, none⟩), .bool true] w fun e w' => e = .returned (.chan (some c0)) ∧ w = w' := by
  have h0 := h.p0
  clear h
  go_enter Try.func33, Try.ntmps33
  go_wp2
  go_ret
  exact ⟨rfl, rfl⟩
theorem s_lane_f {B c0 c1 k0 k1 : Nat} {l0 l1 : List Value} (w : World) (h : Box w B c0 c1 k0 k1 l0 l1) :
    Calls Try.prog 33 #[.pointer (some ⟨B, 0, none⟩), .bool false] w fun e w' => e = .returned (.chan (some c1)) ∧ w = w' := by
  have h0 := h.p1
  clear h
  go_enter Try.func33, Try.ntmps33
  go_wp2
  go_ret
  exact ⟨rfl, rfl⟩
theorem s_take_none (c k : Nat) (w : World) (hc : Lane w c k []) :
    Calls Try.prog 35 #[.chan (some c)] w fun e w' => e = .returned (.tuple #[.string ⟨#[]⟩, .bool false]) ∧ w = w' := by
  obtain ⟨s, r, hc⟩ := hc
  have HC := Lib.hid hc; clear hc
  go_enter Try.func35, Try.ntmps35
  go_upto_region 2 with (fail)
  refine wp_region_steps 1 (fun b k cs => Steps.one (step_none (i := 0) (c := c) (z := .string ⟨#[]⟩) rfl rfl (by simp [go_sem, execOp, rcase, Act.eval]) HC.out)) ?_
  go_wp2
  go_ret2
  exact ⟨rfl, rfl⟩
theorem s_take_some (c k : Nat) (x : ByteArray) (l : List Value) (w : World) (hc : Lane w c k (.string x :: l)) :
    Calls Try.prog 35 #[.chan (some c)] w fun e w' => e = .returned (.tuple #[.string x, .bool true]) ∧ Lane w' c k l ∧ Upd (· = c) w w' := by
  obtain ⟨s, r, hc⟩ := hc
  have HC := Lib.hid hc; clear hc
  have HS := Lib.hid (show ((.string x : Value) :: l).toArray.extract 1 ((.string x : Value) :: l).toArray.size = l.toArray by simp)
  go_enter Try.func35, Try.ntmps35
  go_upto_region 2 with (fail)
  refine wp_region_steps 1 (fun b k cs => Steps.one (step_recv (i := 0) (c := c) (z := .string ⟨#[]⟩) rfl rfl (by simp [go_sem, execOp, rcase, Act.eval]) HC.out (by simp))) ?_
  rw [HS.out]
  go_wp2
  go_ret2
  exact ⟨rfl, ⟨_, _, heap_setChan _ _ _ _ _ _ _ _ (heap_lt HC.out)⟩, upd_setChan _ _ _ _ _ _ _⟩
theorem s_put_full_t {B c0 c1 k0 k1 : Nat} {l0 l1 : List Value} (x : ByteArray) (w : World) (h : Box w B c0 c1 k0 k1 l0 l1) (hf : k0 ≤ l0.length) :
    Calls Try.prog 13 #[.pointer (some ⟨B, 0, none⟩), .string x, .bool true] w fun e w' => e = .returned (.int .i64 9) ∧ w = w' := by
  obtain ⟨s, r, hc⟩ := h.a
  have HC := Lib.hid hc; clear hc
  have HH := Lib.hid h; clear h
  go_enter Try.func13, Try.ntmps13
  go_upto_region 3 with (fail)
  refine (s_lane_t _ HH.out).mono ?_
  rintro e w' ⟨rfl, rfl⟩
  go_upto_region 3 with (fail)
  refine wp_region_steps 1 (fun b k cs => Steps.one (step_full (i := 0) (c := c0) (v := .string x) (z := .string ⟨#[]⟩) rfl rfl (by simp [go_sem, execOp, scase, Act.eval]) HC.out (by simpa using hf))) ?_
  go_wp2
  go_ret
  exact ⟨rfl, rfl⟩
theorem s_put_room_t {B c0 c1 k0 k1 : Nat} {l0 l1 : List Value} (x : ByteArray) (w : World) (h : Box w B c0 c1 k0 k1 l0 l1) (hf : l0.length < k0) :
    Calls Try.prog 13 #[.pointer (some ⟨B, 0, none⟩), .string x, .bool true] w fun e w' => e = .returned (.int .i64 0) ∧ Box w' B c0 c1 k0 k1 (l0 ++ [.string x]) l1 ∧ Upd (· = c0) w w' := by
  obtain ⟨s, r, hc⟩ := h.a
  have HC := Lib.hid hc; clear hc
  have HH := Lib.hid h; clear h
  have HS := Lib.hid (show l0.toArray.push (.string x) = (l0 ++ [(.string x : Value)]).toArray by simp)
  go_enter Try.func13, Try.ntmps13
  go_upto_region 3 with (fail)
  refine (s_lane_t _ HH.out).mono ?_
  rintro e w' ⟨rfl, rfl⟩
  go_upto_region 3 with (fail)
  refine wp_region_steps 1 (fun b k cs => Steps.one (step_send (i := 0) (c := c0) (v := .string x) (z := .string ⟨#[]⟩) rfl rfl (by simp [go_sem, execOp, scase, Act.eval]) HC.out (by simpa using hf))) ?_
  rw [HS.out]
  have hu := Lib.hid (upd_setChan w c0 k0 (l0 ++ [(.string x : Value)]).toArray false (s + 1) r)
  have hb := Lib.hid (heap_setChan w c0 k0 (l0 ++ [(.string x : Value)]).toArray false (s + 1) r false (heap_lt HC.out))
  generalize World.setChan w c0 k0 (l0 ++ [(.string x : Value)]).toArray false (s + 1) r false = w2 at *
  go_wp2
  go_ret
  exact ⟨rfl, HH.out.setA hu.out ⟨_, _, hb.out⟩, hu.out⟩
theorem s_put_full_f {B c0 c1 k0 k1 : Nat} {l0 l1 : List Value} (x : ByteArray) (w : World) (h : Box w B c0 c1 k0 k1 l0 l1) (hf : k1 ≤ l1.length) :
    Calls Try.prog 13 #[.pointer (some ⟨B, 0, none⟩), .string x, .bool false] w fun e w' => e = .returned (.int .i64 9) ∧ w = w' := by
  obtain ⟨s, r, hc⟩ := h.b
  have HC := Lib.hid hc; clear hc
  have HH := Lib.hid h; clear h
  go_enter Try.func13, Try.ntmps13
  go_upto_region 3 with (fail)
  refine (s_lane_f _ HH.out).mono ?_
  rintro e w' ⟨rfl, rfl⟩
  go_upto_region 3 with (fail)
  refine wp_region_steps 1 (fun b k cs => Steps.one (step_full (i := 0) (c := c1) (v := .string x) (z := .string ⟨#[]⟩) rfl rfl (by simp [go_sem, execOp, scase, Act.eval]) HC.out (by simpa using hf))) ?_
  go_wp2
  go_ret
  exact ⟨rfl, rfl⟩
theorem s_put_room_f {B c0 c1 k0 k1 : Nat} {l0 l1 : List Value} (x : ByteArray) (w : World) (h : Box w B c0 c1 k0 k1 l0 l1) (hf : l1.length < k1) :
    Calls Try.prog 13 #[.pointer (some ⟨B, 0, none⟩), .string x, .bool false] w fun e w' => e = .returned (.int .i64 0) ∧ Box w' B c0 c1 k0 k1 l0 (l1 ++ [.string x]) ∧ Upd (· = c1) w w' := by
  obtain ⟨s, r, hc⟩ := h.b
  have HC := Lib.hid hc; clear hc
  have HH := Lib.hid h; clear h
  have HS := Lib.hid (show l1.toArray.push (.string x) = (l1 ++ [(.string x : Value)]).toArray by simp)
  go_enter Try.func13, Try.ntmps13
  go_upto_region 3 with (fail)
  refine (s_lane_f _ HH.out).mono ?_
  rintro e w' ⟨rfl, rfl⟩
  go_upto_region 3 with (fail)
  refine wp_region_steps 1 (fun b k cs => Steps.one (step_send (i := 0) (c := c1) (v := .string x) (z := .string ⟨#[]⟩) rfl rfl (by simp [go_sem, execOp, scase, Act.eval]) HC.out (by simpa using hf))) ?_
  rw [HS.out]
  have hu := Lib.hid (upd_setChan w c1 k1 (l1 ++ [(.string x : Value)]).toArray false (s + 1) r)
  have hb := Lib.hid (heap_setChan w c1 k1 (l1 ++ [(.string x : Value)]).toArray false (s + 1) r false (heap_lt HC.out))
  generalize World.setChan w c1 k1 (l1 ++ [(.string x : Value)]).toArray false (s + 1) r false = w2 at *
  go_wp2
  go_ret
  exact ⟨rfl, HH.out.setB hu.out ⟨_, _, hb.out⟩, hu.out⟩
theorem p_lane_t {B c0 c1 k0 k1 : Nat} {l0 l1 : List Value} (w : World) (h : Box w B c0 c1 k0 k1 l0 l1) :
    Calls Try.prog 34 #[.pointer (some ⟨B, 0, none⟩), .bool true] w fun e w' => e = .returned (.chan (some c0)) ∧ w = w' := by
  have h0 := h.p0
  clear h
  go_enter Try.func34, Try.ntmps34
  go_wp2
  go_ret
  exact ⟨rfl, rfl⟩
theorem p_lane_f {B c0 c1 k0 k1 : Nat} {l0 l1 : List Value} (w : World) (h : Box w B c0 c1 k0 k1 l0 l1) :
    Calls Try.prog 34 #[.pointer (some ⟨B, 0, none⟩), .bool false] w fun e w' => e = .returned (.chan (some c1)) ∧ w = w' := by
  have h0 := h.p1
  clear h
  go_enter Try.func34, Try.ntmps34
  go_wp2
  go_ret
  exact ⟨rfl, rfl⟩
end Go.Proofs.Ytohjikijgcpnnaa
