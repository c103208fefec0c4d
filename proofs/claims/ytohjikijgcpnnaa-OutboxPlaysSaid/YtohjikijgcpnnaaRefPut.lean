/-
  The reference's Put.
-/
import Derived.Test.YtohjikijgcpnnaaRef
namespace Go.Proofs.Ytohjikijgcpnnaa
open Go.RowKit Go.Conc

theorem strs_snoc (L : List ByteArray) (x : ByteArray) : strs (L ++ [x]) = strs L ++ [.string x] := by simp [strs]
theorem owns_mono {w : World} {base base' e size n : Nat} {v : Value} {xs : List Value} (h : w.ownsRow base e size v n xs) (hb : base' ≤ base) : w.ownsRow base' e size v n xs := by
  refine ⟨h.1, ?_⟩
  rcases h.2 with h2 | ⟨g, cap, cur, rfl, h3, rest⟩
  · exact .inl h2
  · exact .inr ⟨g, cap, cur, rfl, Nat.le_trans hb h3, rest⟩
theorem sowns_form {w : World} {base n : Nat} {v : Value} {xs : List Value} (h : w.ownsRow base 9 1 v n xs) : ∃ p q, v = .slice p n q := by
  rcases h.2 with ⟨rfl, rfl⟩ | ⟨g, cap, cur, rfl, _⟩
  · exact ⟨none, 0, rfl⟩
  · exact ⟨_, cap, rfl⟩
/-- A row of nothing, made anew. -/
theorem owns_empty (w : World) : (w.alloc (.cells #[] 9)).ownsRow w.heap.size 9 1 (.slice (some ⟨w.heap.size, 0, none⟩) 0 0) 0 [] :=
  ⟨rfl, .inr ⟨_, _, _, rfl, Nat.le_refl _, heap_new w _, Nat.le_refl _, Nat.zero_le _, rfl, rfl⟩⟩
theorem strs_one (L : List ByteArray) : ∀ u ∈ strs L, u.oneCell' = true := fun u hu => by
  simp [strs] at hu
  obtain ⟨x, _, rfl⟩ := hu
  rfl
/-- A block of four cells. -/
structure Four (w : World) (g : Nat) (a b c d : Value) : Prop where
  c0 : w.cell? ⟨g, 0, none⟩ = some a
  c1 : w.cell? ⟨g, 1, none⟩ = some b
  c2 : w.cell? ⟨g, 2, none⟩ = some c
  c3 : w.cell? ⟨g, 3, none⟩ = some d
  f0 : w.frozen? ⟨g, 0, none⟩ = false
  f1 : w.frozen? ⟨g, 1, none⟩ = false
  f2 : w.frozen? ⟨g, 2, none⟩ = false
  f3 : w.frozen? ⟨g, 3, none⟩ = false
theorem four_new (w : World) (a b c d : Value) (t : TypeId) : Four (w.alloc (.cells #[a, b, c, d] t)) w.heap.size a b c d := by
  obtain ⟨h0, h1, h2, h3⟩ := four_cells w a b c d t
  exact ⟨h0, h1, h2, h3, by rw [World.frozen?_alloc_mark]; simp, by rw [World.frozen?_alloc_mark]; simp, by rw [World.frozen?_alloc_mark]; simp, by rw [World.frozen?_alloc_mark]; simp⟩
theorem Four.lt {w : World} {g : Nat} {a b c d : Value} (h : Four w g a b c d) : g < w.heap.size := cell_lt h.c0
theorem Four.keep {w w' : World} {g : Nat} {a b c d : Value} (h : Four w g a b c d) {S : Nat → Prop} (hu : Upd S w w') (hn : ¬ S g) : Four w' g a b c d :=
  ⟨hu.cell h.c0 hn, hu.cell h.c1 hn, hu.cell h.c2 hn, hu.cell h.c3 hn, (hu.frozen (p := ⟨g, 0, none⟩) h.lt hn).trans h.f0, (hu.frozen (p := ⟨g, 1, none⟩) h.lt hn).trans h.f1, (hu.frozen (p := ⟨g, 2, none⟩) h.lt hn).trans h.f2, (hu.frozen (p := ⟨g, 3, none⟩) h.lt hn).trans h.f3⟩
/-- The two blocks that a method of the reference makes at its head. -/
theorem two_fours (w : World) (a b c d : Value) :
    Four ((w.alloc (.cells #[a, b, c, d] 53)).alloc (.cells #[.slice none 0 0, .slice none 0 0, .int .i64 0, .int .i64 0] 53)) w.heap.size a b c d ∧
    Four ((w.alloc (.cells #[a, b, c, d] 53)).alloc (.cells #[.slice none 0 0, .slice none 0 0, .int .i64 0, .int .i64 0] 53)) (w.heap.size + 1) (.slice none 0 0) (.slice none 0 0) (.int .i64 0) (.int .i64 0) ∧
    Below w.heap.size w ((w.alloc (.cells #[a, b, c, d] 53)).alloc (.cells #[.slice none 0 0, .slice none 0 0, .int .i64 0, .int .i64 0] 53)) := by
  refine ⟨(four_new w a b c d 53).keep (upd_alloc (fun _ => False) _ _) (fun h => h), ?_, ((Below.refl _ _).alloc (Nat.le_refl _) _).alloc (by simp) _⟩
  have := four_new (w.alloc (.cells #[a, b, c, d] 53)) (.slice none 0 0) (.slice none 0 0) (.int .i64 0) (.int .i64 0) 53
  simpa using this

set_option maxHeartbeats 1000000 in
theorem r_put_full_t (p0 : Option Addr) (n0 q0 : Nat) (p1 : Option Addr) (n1 q1 : Nat) (m0 m1 : Nat) (x : ByteArray) (w : World) (h0 : n0 ≤ 1000) (h1 : m0 ≤ 8) (hf : m0 ≤ n0) :
    Calls Try.prog 22 #[.agg #[.slice p0 n0 q0, .slice p1 n1 q1, .int .i64 m0, .int .i64 m1], .string x, .bool true] w fun e w' =>
      e = .returned (.tuple #[.agg #[.slice p0 n0 q0, .slice p1 n1 q1, .int .i64 m0, .int .i64 m1], .bool false]) ∧ Below w.heap.size w w' := by
  obtain ⟨fa, fb, hb⟩ := two_fours w (.slice p0 n0 q0) (.slice p1 n1 q1) (.int .i64 m0) (.int .i64 m1)
  have HA := Lib.hid fa
  have HZ := Lib.hid fb
  have HB := Lib.hid hb
  clear fa fb hb
  go_enter Try.func22, Try.ntmps22
  go_wp2_with fail
  generalize World.alloc (World.alloc w _) _ = w2 at *
  refine (l_lane_t _).mono ?_
  rintro e w3 ⟨rfl, rfl⟩
  have y0 := HA.out.c0
  have y1 := HA.out.c1
  have y2 := HA.out.c2
  have y3 := HA.out.c3
  go_wp2_with fail
  refine (r_room_t p0 n0 q0 p1 n1 q1 m0 m1 _ h0 h1).mono ?_
  rintro e w4 ⟨rfl, hb4⟩
  clear y0 y1 y2 y3
  have ha := HA.out.keep (upd_of_below (S := fun _ => False) hb4) (fun h => h)
  have hz := HZ.out.keep (upd_of_below (S := fun _ => False) hb4) (fun h => h)
  have HB4 := Lib.hid (HB.out.trans (hb4.mono HB.out.size))
  clear hb4 HA HZ HB
  have y0 := ha.c0
  have y1 := ha.c1
  have y2 := ha.c2
  have y3 := ha.c3
  have z0 := hz.c0
  have z1 := hz.c1
  have z2 := hz.c2
  have z3 := hz.c3
  have g0 := hz.f0
  have g1 := hz.f1
  have g2 := hz.f2
  have g3 := hz.f3
  have hl := hz.lt
  clear ha hz
  go_wp2_with fail
  refine bodyPost_ret (v := .tuple #[.agg #[.slice p0 n0 q0, .slice p1 n1 q1, .int .i64 m0, .int .i64 m1], .bool false]) (by simp [results, Try.results22, go_sem, y0, y1, y2, y3, z0, z1, z2, z3, hl]) rfl ⟨rfl, (((HB4.out.setCell (p := ⟨w.heap.size + 1, 0, none⟩) (Nat.le_succ _) _).setCell (p := ⟨w.heap.size + 1, 1, none⟩) (Nat.le_succ _) _).setCell (p := ⟨w.heap.size + 1, 2, none⟩) (Nat.le_succ _) _).setCell (p := ⟨w.heap.size + 1, 3, none⟩) (Nat.le_succ _) _⟩
set_option maxHeartbeats 1000000 in
theorem r_put_room_t (p0 : Option Addr) (n0 q0 : Nat) (p1 : Option Addr) (n1 q1 : Nat) (m0 m1 : Nat) (x : ByteArray) (w : World) (h0 : n0 ≤ 1000) (h1 : m0 ≤ 8) (hf : n0 < m0) (lo : Nat) (L0 : List ByteArray) (hrow : w.ownsRow lo 9 1 (.slice p0 n0 q0) n0 (strs L0)) :
    Calls Try.prog 22 #[.agg #[.slice p0 n0 q0, .slice p1 n1 q1, .int .i64 m0, .int .i64 m1], .string x, .bool true] w fun e w' =>
      ∃ p q, e = .returned (.tuple #[.agg #[.slice p (n0 + 1) q, .slice p1 n1 q1, .int .i64 m0, .int .i64 m1], .bool true]) ∧ w'.ownsRow w.heap.size 9 1 (.slice p (n0 + 1) q) (n0 + 1) (strs (L0 ++ [x])) ∧ Below w.heap.size w w' := by
  obtain ⟨ti, hi, ht0, ht1, ht2⟩ := info_parts info9
  have HI := Lib.hid (And.intro hi (And.intro ht0 (And.intro ht1 ht2))); clear hi ht0 ht1 ht2
  have HR := Lib.hid hrow; clear hrow
  obtain ⟨fa, fb, hb⟩ := two_fours w (.slice p0 n0 q0) (.slice p1 n1 q1) (.int .i64 m0) (.int .i64 m1)
  have HA := Lib.hid fa
  have HZ := Lib.hid fb
  have HB := Lib.hid hb
  clear fa fb hb
  go_enter Try.func22, Try.ntmps22
  go_wp2_with fail
  generalize World.alloc (World.alloc w _) _ = w2 at *
  refine (l_lane_t _).mono ?_
  rintro e w3 ⟨rfl, rfl⟩
  have y0 := HA.out.c0
  have y1 := HA.out.c1
  have y2 := HA.out.c2
  have y3 := HA.out.c3
  go_wp2_with fail
  refine (r_room_t p0 n0 q0 p1 n1 q1 m0 m1 _ h0 h1).mono ?_
  rintro e w4 ⟨rfl, hb4⟩
  clear y0 y1 y2 y3
  have ha := HA.out.keep (upd_of_below (S := fun _ => False) hb4) (fun h => h)
  have hz := HZ.out.keep (upd_of_below (S := fun _ => False) hb4) (fun h => h)
  have HB4 := Lib.hid (HB.out.trans (hb4.mono HB.out.size))
  clear hb4 HA HZ HB
  have y0 := ha.c0
  have hl := hz.lt
  have HA4 := Lib.hid ha
  have HZ4 := Lib.hid hz
  clear ha hz
  have HR4 := Lib.hid (owns_upd2 HR.out (upd_of_below (S := fun _ => False) HB4.out) (fun _ _ h => h))
  go_upto_region 4 with (fail)
  have ua := upd_alloc (fun _ => False) w4 (Obj.cells #[] 9)
  have y0a := ua.cell y0 (fun h => h)
  have HO := Lib.hid (owns_empty w4)
  have HS := Lib.hid (owns_upd2 HR4.out ua (fun _ _ h => h))
  clear HR4 ua
  go_upto_region 5 with (at_builtin; refine wpList_append_src _ rfl (.tmp 17) (.tmp 21) 34 rfl w4.heap.size lo 9 ti (.string ⟨#[]⟩) 1 16 Try.underlying34 HI.out.1 HI.out.2.1 HI.out.2.2.1 HI.out.2.2.2 rfl (by decide) _ 0 [] rfl HO.out (.slice p0 n0 q0) n0 (strs L0) rfl HS.out (strs_one L0) ?_ ?_ ?_ ?_)
  · unfold maxLen; omega
  · omega
  · simp
  intro v' w5 ho5 hg5
  have HO5 := Lib.hid ho5
  have hl5 : Below w4.heap.size w4 w5 := ((Below.refl _ w4).alloc (Nat.le_refl _) _).grown hg5 (by simp) (fun k hk => by simp [Value.ownBlock] at hk; omega)
  have hz5 := hl5.size
  have HL5 := Lib.hid hl5
  clear ho5 hg5 HO HS hl5
  go_upto_region 5 with (at_builtin; refine (wpList_append_own2 _ rfl (.tmp 22) (.tmp 24) 34 rfl w4.heap.size 9 ti (.string ⟨#[]⟩) 1 16 Try.underlying34 HI.out.1 HI.out.2.1 HI.out.2.2.1 HI.out.2.2.2 rfl (by decide) v' n0 (strs L0) rfl (HO5.out.alloc _) ⟨w5.heap.size, 0, none⟩ 1 1 [.string x] rfl rfl (cell_one_new _ _ _) (str_one _) ?c3 ?c4 ?c5 ?_))
  case c3 => unfold maxLen; omega
  case c4 => omega
  case c5 => simp; omega
  intro v6 w6 ho6 hg6 _
  have hlow := HO5.out.lt
  have hl6 : Below w4.heap.size w4 w6 := (HL5.out.alloc hz5 _).grown hg6 (by simp; omega) (fun k hk => (hlow k hk).1)
  rw [← strs_snoc] at ho6
  obtain ⟨p6, q6, rfl⟩ := sowns_form ho6
  have HO6 := Lib.hid ho6
  have u6 := upd_of_below (S := fun _ => False) hl6
  have HA6 := Lib.hid (HA4.out.keep u6 (fun h => h))
  have HZ6 := Lib.hid (HZ4.out.keep u6 (fun h => h))
  have HB6 := Lib.hid (HB4.out.trans (hl6.mono HB4.out.size))
  clear ho6 hg6 hlow u6 hl6 y0a HA4 HZ4
  have y0 := HA6.out.c0
  have y1 := HA6.out.c1
  have y2 := HA6.out.c2
  have y3 := HA6.out.c3
  have k0 := HA6.out.f0
  have z0 := HZ6.out.c0
  have z1 := HZ6.out.c1
  have z2 := HZ6.out.c2
  have z3 := HZ6.out.c3
  have g0 := HZ6.out.f0
  have g1 := HZ6.out.f1
  have g2 := HZ6.out.f2
  have g3 := HZ6.out.f3
  have hl := HZ6.out.lt
  go_wp2_with fail
  have hl4 : w.heap.size + 1 < w4.heap.size := by assumption
  refine bodyPost_ret (v := .tuple #[.agg #[.slice p6 (n0 + 1) q6, .slice p1 n1 q1, .int .i64 m0, .int .i64 m1], .bool true]) (by simp [results, Try.results22, go_sem, y0, y1, y2, y3, z0, z1, z2, z3, hl]) rfl ⟨p6, q6, rfl, ?_, ((((HB6.out.setCell (p := ⟨w.heap.size, 0, none⟩) (Nat.le_refl _) _).setCell (p := ⟨w.heap.size + 1, 0, none⟩) (Nat.le_succ _) _).setCell (p := ⟨w.heap.size + 1, 1, none⟩) (Nat.le_succ _) _).setCell (p := ⟨w.heap.size + 1, 2, none⟩) (Nat.le_succ _) _).setCell (p := ⟨w.heap.size + 1, 3, none⟩) (Nat.le_succ _) _⟩
  have ho := HO6.out
  have ho := ownsRow_setCell_below ho (a := ⟨w.heap.size, 0, none⟩) (by show w.heap.size < _; omega) (.slice p6 (n0 + 1) q6)
  have ho := ownsRow_setCell_below ho (a := ⟨w.heap.size + 1, 0, none⟩) hl4 (.slice p6 (n0 + 1) q6)
  have ho := ownsRow_setCell_below ho (a := ⟨w.heap.size + 1, 1, none⟩) hl4 (.slice p1 n1 q1)
  have ho := ownsRow_setCell_below ho (a := ⟨w.heap.size + 1, 2, none⟩) hl4 (.int .i64 m0)
  have ho := ownsRow_setCell_below ho (a := ⟨w.heap.size + 1, 3, none⟩) hl4 (.int .i64 m1)
  exact owns_mono ho (by omega)
/-! ### The usual lane -/
set_option maxHeartbeats 1000000 in
theorem r_put_full_f (p0 : Option Addr) (n0 q0 : Nat) (p1 : Option Addr) (n1 q1 : Nat) (m0 m1 : Nat) (x : ByteArray) (w : World) (h0 : n1 ≤ 1000) (h1 : m1 ≤ 8) (hf : m1 ≤ n1) :
    Calls Try.prog 22 #[.agg #[.slice p0 n0 q0, .slice p1 n1 q1, .int .i64 m0, .int .i64 m1], .string x, .bool false] w fun e w' =>
      e = .returned (.tuple #[.agg #[.slice p0 n0 q0, .slice p1 n1 q1, .int .i64 m0, .int .i64 m1], .bool false]) ∧ Below w.heap.size w w' := by
  obtain ⟨fa, fb, hb⟩ := two_fours w (.slice p0 n0 q0) (.slice p1 n1 q1) (.int .i64 m0) (.int .i64 m1)
  have HA := Lib.hid fa
  have HZ := Lib.hid fb
  have HB := Lib.hid hb
  clear fa fb hb
  go_enter Try.func22, Try.ntmps22
  go_wp2_with fail
  generalize World.alloc (World.alloc w _) _ = w2 at *
  refine (l_lane_f _).mono ?_
  rintro e w3 ⟨rfl, rfl⟩
  have y0 := HA.out.c0
  have y1 := HA.out.c1
  have y2 := HA.out.c2
  have y3 := HA.out.c3
  go_wp2_with fail
  refine (r_room_f p0 n0 q0 p1 n1 q1 m0 m1 _ h0 h1).mono ?_
  rintro e w4 ⟨rfl, hb4⟩
  clear y0 y1 y2 y3
  have ha := HA.out.keep (upd_of_below (S := fun _ => False) hb4) (fun h => h)
  have hz := HZ.out.keep (upd_of_below (S := fun _ => False) hb4) (fun h => h)
  have HB4 := Lib.hid (HB.out.trans (hb4.mono HB.out.size))
  clear hb4 HA HZ HB
  have y0 := ha.c0
  have y1 := ha.c1
  have y2 := ha.c2
  have y3 := ha.c3
  have z0 := hz.c0
  have z1 := hz.c1
  have z2 := hz.c2
  have z3 := hz.c3
  have g0 := hz.f0
  have g1 := hz.f1
  have g2 := hz.f2
  have g3 := hz.f3
  have hl := hz.lt
  clear ha hz
  go_wp2_with fail
  refine bodyPost_ret (v := .tuple #[.agg #[.slice p0 n0 q0, .slice p1 n1 q1, .int .i64 m0, .int .i64 m1], .bool false]) (by simp [results, Try.results22, go_sem, y0, y1, y2, y3, z0, z1, z2, z3, hl]) rfl ⟨rfl, (((HB4.out.setCell (p := ⟨w.heap.size + 1, 0, none⟩) (Nat.le_succ _) _).setCell (p := ⟨w.heap.size + 1, 1, none⟩) (Nat.le_succ _) _).setCell (p := ⟨w.heap.size + 1, 2, none⟩) (Nat.le_succ _) _).setCell (p := ⟨w.heap.size + 1, 3, none⟩) (Nat.le_succ _) _⟩
set_option maxHeartbeats 1000000 in
theorem r_put_room_f (p0 : Option Addr) (n0 q0 : Nat) (p1 : Option Addr) (n1 q1 : Nat) (m0 m1 : Nat) (x : ByteArray) (w : World) (h0 : n1 ≤ 1000) (h1 : m1 ≤ 8) (hf : n1 < m1) (lo : Nat) (L1 : List ByteArray) (hrow : w.ownsRow lo 9 1 (.slice p1 n1 q1) n1 (strs L1)) :
    Calls Try.prog 22 #[.agg #[.slice p0 n0 q0, .slice p1 n1 q1, .int .i64 m0, .int .i64 m1], .string x, .bool false] w fun e w' =>
      ∃ p q, e = .returned (.tuple #[.agg #[.slice p0 n0 q0, .slice p (n1 + 1) q, .int .i64 m0, .int .i64 m1], .bool true]) ∧ w'.ownsRow w.heap.size 9 1 (.slice p (n1 + 1) q) (n1 + 1) (strs (L1 ++ [x])) ∧ Below w.heap.size w w' := by
  obtain ⟨ti, hi, ht0, ht1, ht2⟩ := info_parts info9
  have HI := Lib.hid (And.intro hi (And.intro ht0 (And.intro ht1 ht2))); clear hi ht0 ht1 ht2
  have HR := Lib.hid hrow; clear hrow
  obtain ⟨fa, fb, hb⟩ := two_fours w (.slice p0 n0 q0) (.slice p1 n1 q1) (.int .i64 m0) (.int .i64 m1)
  have HA := Lib.hid fa
  have HZ := Lib.hid fb
  have HB := Lib.hid hb
  clear fa fb hb
  go_enter Try.func22, Try.ntmps22
  go_wp2_with fail
  generalize World.alloc (World.alloc w _) _ = w2 at *
  refine (l_lane_f _).mono ?_
  rintro e w3 ⟨rfl, rfl⟩
  have y0 := HA.out.c0
  have y1 := HA.out.c1
  have y2 := HA.out.c2
  have y3 := HA.out.c3
  go_wp2_with fail
  refine (r_room_f p0 n0 q0 p1 n1 q1 m0 m1 _ h0 h1).mono ?_
  rintro e w4 ⟨rfl, hb4⟩
  clear y0 y1 y2 y3
  have ha := HA.out.keep (upd_of_below (S := fun _ => False) hb4) (fun h => h)
  have hz := HZ.out.keep (upd_of_below (S := fun _ => False) hb4) (fun h => h)
  have HB4 := Lib.hid (HB.out.trans (hb4.mono HB.out.size))
  clear hb4 HA HZ HB
  have y1 := ha.c1
  have hl := hz.lt
  have HA4 := Lib.hid ha
  have HZ4 := Lib.hid hz
  clear ha hz
  have HR4 := Lib.hid (owns_upd2 HR.out (upd_of_below (S := fun _ => False) HB4.out) (fun _ _ h => h))
  go_upto_region 4 with (fail)
  have ua := upd_alloc (fun _ => False) w4 (Obj.cells #[] 9)
  have y0a := ua.cell y1 (fun h => h)
  have HO := Lib.hid (owns_empty w4)
  have HS := Lib.hid (owns_upd2 HR4.out ua (fun _ _ h => h))
  clear HR4 ua
  go_upto_region 5 with (at_builtin; refine wpList_append_src _ rfl (.tmp 17) (.tmp 21) 34 rfl w4.heap.size lo 9 ti (.string ⟨#[]⟩) 1 16 Try.underlying34 HI.out.1 HI.out.2.1 HI.out.2.2.1 HI.out.2.2.2 rfl (by decide) _ 0 [] rfl HO.out (.slice p1 n1 q1) n1 (strs L1) rfl HS.out (strs_one L1) ?_ ?_ ?_ ?_)
  · unfold maxLen; omega
  · omega
  · simp
  intro v' w5 ho5 hg5
  have HO5 := Lib.hid ho5
  have hl5 : Below w4.heap.size w4 w5 := ((Below.refl _ w4).alloc (Nat.le_refl _) _).grown hg5 (by simp) (fun k hk => by simp [Value.ownBlock] at hk; omega)
  have hz5 := hl5.size
  have HL5 := Lib.hid hl5
  clear ho5 hg5 HO HS hl5
  go_upto_region 5 with (at_builtin; refine (wpList_append_own2 _ rfl (.tmp 22) (.tmp 24) 34 rfl w4.heap.size 9 ti (.string ⟨#[]⟩) 1 16 Try.underlying34 HI.out.1 HI.out.2.1 HI.out.2.2.1 HI.out.2.2.2 rfl (by decide) v' n1 (strs L1) rfl (HO5.out.alloc _) ⟨w5.heap.size, 0, none⟩ 1 1 [.string x] rfl rfl (cell_one_new _ _ _) (str_one _) ?c3 ?c4 ?c5 ?_))
  case c3 => unfold maxLen; omega
  case c4 => omega
  case c5 => simp; omega
  intro v6 w6 ho6 hg6 _
  have hlow := HO5.out.lt
  have hl6 : Below w4.heap.size w4 w6 := (HL5.out.alloc hz5 _).grown hg6 (by simp; omega) (fun k hk => (hlow k hk).1)
  rw [← strs_snoc] at ho6
  obtain ⟨p6, q6, rfl⟩ := sowns_form ho6
  have HO6 := Lib.hid ho6
  have u6 := upd_of_below (S := fun _ => False) hl6
  have HA6 := Lib.hid (HA4.out.keep u6 (fun h => h))
  have HZ6 := Lib.hid (HZ4.out.keep u6 (fun h => h))
  have HB6 := Lib.hid (HB4.out.trans (hl6.mono HB4.out.size))
  clear ho6 hg6 hlow u6 hl6 y0a HA4 HZ4
  have y0 := HA6.out.c0
  have y1 := HA6.out.c1
  have y2 := HA6.out.c2
  have y3 := HA6.out.c3
  have k0 := HA6.out.f1
  have z0 := HZ6.out.c0
  have z1 := HZ6.out.c1
  have z2 := HZ6.out.c2
  have z3 := HZ6.out.c3
  have g0 := HZ6.out.f0
  have g1 := HZ6.out.f1
  have g2 := HZ6.out.f2
  have g3 := HZ6.out.f3
  have hl := HZ6.out.lt
  go_wp2_with fail
  have hl4 : w.heap.size + 1 < w4.heap.size := by assumption
  refine bodyPost_ret (v := .tuple #[.agg #[.slice p0 n0 q0, .slice p6 (n1 + 1) q6, .int .i64 m0, .int .i64 m1], .bool true]) (by simp [results, Try.results22, go_sem, y0, y1, y2, y3, z0, z1, z2, z3, hl]) rfl ⟨p6, q6, rfl, ?_, ((((HB6.out.setCell (p := ⟨w.heap.size, 1, none⟩) (Nat.le_refl _) _).setCell (p := ⟨w.heap.size + 1, 0, none⟩) (Nat.le_succ _) _).setCell (p := ⟨w.heap.size + 1, 1, none⟩) (Nat.le_succ _) _).setCell (p := ⟨w.heap.size + 1, 2, none⟩) (Nat.le_succ _) _).setCell (p := ⟨w.heap.size + 1, 3, none⟩) (Nat.le_succ _) _⟩
  have ho := HO6.out
  have ho := ownsRow_setCell_below ho (a := ⟨w.heap.size, 1, none⟩) (by show w.heap.size < _; omega) (.slice p6 (n1 + 1) q6)
  have ho := ownsRow_setCell_below ho (a := ⟨w.heap.size + 1, 0, none⟩) hl4 (.slice p0 n0 q0)
  have ho := ownsRow_setCell_below ho (a := ⟨w.heap.size + 1, 1, none⟩) hl4 (.slice p6 (n1 + 1) q6)
  have ho := ownsRow_setCell_below ho (a := ⟨w.heap.size + 1, 2, none⟩) hl4 (.int .i64 m0)
  have ho := ownsRow_setCell_below ho (a := ⟨w.heap.size + 1, 3, none⟩) hl4 (.int .i64 m1)
  exact owns_mono ho (by omega)
end Go.Proofs.Ytohjikijgcpnnaa
