/-
  The reference's Take.
-/
import Derived.Test.YtohjikijgcpnnaaRefPut
namespace Go.Proofs.Ytohjikijgcpnnaa
open Go.RowKit Go.Conc

/-- A row that holds something: its block, its cells. -/
theorem srow_cells {w : World} {base n q : Nat} {p : Option Addr} {xs : List Value} (h : w.ownsRow base 9 1 (.slice p (n + 1) q) (n + 1) xs) : ∃ g, p = some ⟨g, 0, none⟩ ∧ (∀ j u, xs[j]? = some u → w.cell? ⟨g, j, none⟩ = some u) ∧ n + 1 ≤ q ∧ q ≤ maxLen := by
  rcases h.2 with ⟨hv, hn⟩ | ⟨g, cap, cur, hv, _, _, hc, hm, _⟩
  · omega
  · injection hv with e1 e2 e3
    subst e1
    subst e3
    refine ⟨g, rfl, fun j u hu => ?_, hc, hm⟩
    have := h.cells (g := g) rfl j u hu
    have e : (⟨g, 0, none⟩ : Addr).add j = ⟨g, j, none⟩ := by unfold Addr.add; split <;> simp_all
    rw [e] at this
    exact this

/-- All but the first of a row. -/
theorem slice_tail (g n q : Nat) (h : n + 1 ≤ q) : ∃ off, (∀ w, (Instr.sliceAt 34 (.slice (some ⟨g, 0, none⟩) (n + 1) q) (some (.int .i64 1)) none none).run Try.prog w = .ok (.slice (some ⟨g, off, none⟩) n (q - 1)) w) ∧ (0 < n → off = 1) := by
  have ht : Try.prog.underlying 34 = some (.slice (Try.prog.elem 34)) := by kernel_rfl
  have hs : Try.prog.elem 34 = 9 := by kernel_rfl
  refine ⟨if q = 1 then 0 else 1, fun w => ?_, fun hn => if_neg (by omega)⟩
  rw [run_sliceAt_slice _ _ _ _ _ _ ht, run_slice_l _ _ _ _ _ ht _ _ (by omega) (by omega), hs, Try.sizeOf9]
  simp only [Result.andThen_ok, sliced]
  by_cases hq : q = 1
  · subst hq
    simp
  · simp [hq, Addr.add]

set_option maxHeartbeats 1000000 in
theorem r_take_c (p0 : Option Addr) (q0 : Nat) (p1 : Option Addr) (q1 : Nat) (m0 m1 : Nat) (w : World) :
    Calls Try.prog 23 #[.agg #[.slice p0 0 q0, .slice p1 0 q1, .int .i64 m0, .int .i64 m1]] w fun e w' =>
      e = .returned (.tuple #[.agg #[.slice p0 0 q0, .slice p1 0 q1, .int .i64 m0, .int .i64 m1], .string ⟨#[]⟩, .bool false]) ∧ Below w.heap.size w w' := by
  obtain ⟨fa, fb, hb⟩ := two_fours w (.slice p0 0 q0) (.slice p1 0 q1) (.int .i64 m0) (.int .i64 m1)
  have y0 := fa.c0
  have y1 := fa.c1
  have y2 := fa.c2
  have y3 := fa.c3
  have z0 := fb.c0
  have z1 := fb.c1
  have z2 := fb.c2
  have z3 := fb.c3
  have g0 := fb.f0
  have g1 := fb.f1
  have g2 := fb.f2
  have g3 := fb.f3
  have hl := fb.lt
  have HB := Lib.hid hb
  clear fa fb hb
  go_enter Try.func23, Try.ntmps23
  go_wp2_with fail
  generalize World.alloc (World.alloc w _) _ = w2 at *
  refine wp_loop_rounds 3 ?_
  rw [rounds_succ]
  go_wp2_with fail
  rw [rounds_succ]
  go_wp2_with fail
  rw [rounds_succ]
  go_wp2_with fail
  refine bodyPost_ret (v := .tuple #[.agg #[.slice p0 0 q0, .slice p1 0 q1, .int .i64 m0, .int .i64 m1], .string ⟨#[]⟩, .bool false]) (by simp [results, Try.results23, go_sem, y0, y1, y2, y3, z0, z1, z2, z3, hl]) rfl ⟨rfl, (((HB.out.setCell (p := ⟨w.heap.size + 1, 0, none⟩) (Nat.le_succ _) _).setCell (p := ⟨w.heap.size + 1, 1, none⟩) (Nat.le_succ _) _).setCell (p := ⟨w.heap.size + 1, 2, none⟩) (Nat.le_succ _) _).setCell (p := ⟨w.heap.size + 1, 3, none⟩) (Nat.le_succ _) _⟩

set_option maxHeartbeats 1000000 in
theorem r_take_a (p0 : Option Addr) (n0 q0 : Nat) (p1 : Option Addr) (n1 q1 : Nat) (m0 m1 : Nat) (x : ByteArray) (w : World) (h0 : n0 ≤ 1000) (lo : Nat) (L0 : List ByteArray) (hrow : w.ownsRow lo 9 1 (.slice p0 (n0 + 1) q0) (n0 + 1) (strs (x :: L0))) :
    Calls Try.prog 23 #[.agg #[.slice p0 (n0 + 1) q0, .slice p1 n1 q1, .int .i64 m0, .int .i64 m1]] w fun e w' =>
      ∃ p q, e = .returned (.tuple #[.agg #[.slice p n0 q, .slice p1 n1 q1, .int .i64 m0, .int .i64 m1], .string x, .bool true]) ∧ w'.ownsRow w.heap.size 9 1 (.slice p n0 q) n0 (strs L0) ∧ Below w.heap.size w w' := by
  obtain ⟨ti, hi, ht0, ht1, ht2⟩ := info_parts info9
  have HI := Lib.hid (And.intro hi (And.intro ht0 (And.intro ht1 ht2))); clear hi ht0 ht1 ht2
  obtain ⟨fa, fb, hb⟩ := two_fours w (.slice p0 (n0 + 1) q0) (.slice p1 n1 q1) (.int .i64 m0) (.int .i64 m1)
  obtain ⟨g, rfl, hgc, hgq⟩ := srow_cells hrow
  have HA := Lib.hid fa
  have HZ := Lib.hid fb
  have y0 := fa.c0
  have x0 := (upd_of_below (S := fun _ => False) hb).cell (hgc 0 _ rfl) (fun h => h)
  have HG := Lib.hid hgc
  have HB := Lib.hid hb
  clear fa fb hb hgc
  go_enter Try.func23, Try.ntmps23
  go_wp2_with fail
  generalize World.alloc (World.alloc w _) _ = w2 at *
  refine wp_loop_rounds 3 ?_
  rw [rounds_succ]
  go_upto_region 6 with (fail)
  have ua := upd_alloc (fun _ => False) w2 (Obj.cells #[] 9)
  have y0a := ua.cell y0 (fun h => h)
  have HO := Lib.hid (owns_empty w2)
  obtain ⟨off, hsl, hoff⟩ := slice_tail g n0 q0 hgq.1
  clear ua
  go_upto_region 7 with (at_builtin; refine wpList_append_own2 _ rfl (.tmp 24) (.tmp 29) 34 rfl w2.heap.size 9 ti (.string ⟨#[]⟩) 1 16 Try.underlying34 HI.out.1 HI.out.2.1 HI.out.2.2.1 HI.out.2.2.2 rfl (by decide) _ 0 [] rfl HO.out ⟨g, off, none⟩ n0 (q0 - 1) (strs L0) rfl ?c0 ?c1 (strs_one L0) ?c3 ?c4 ?c5 ?_)
  case c0 => have := hrow.1; simp [strs] at this ⊢; omega
  case c1 =>
    intro j u hu
    have hj : j < n0 := by
      have := hrow.1
      have h2 := (List.getElem?_eq_some_iff.1 hu).1
      simp [strs] at this h2
      omega
    obtain rfl := hoff (by omega)
    have e : (⟨g, 1, none⟩ : Addr).add j = ⟨g, j + 1, none⟩ := by unfold Addr.add; split <;> simp_all [Nat.add_comm]
    rw [e]
    exact (upd_alloc (fun _ => False) w2 _).cell ((upd_of_below (S := fun _ => False) HB.out).cell (HG.out (j + 1) u hu) (fun h => h)) (fun h => h)
  case c3 => unfold maxLen; omega
  case c4 => omega
  case c5 => simp
  intro v6 w6 ho6 hg6 _
  have hl6 : Below w2.heap.size w2 w6 := ((Below.refl _ w2).alloc (Nat.le_refl _) _).grown hg6 (by simp) (fun k hk => by simp [Value.ownBlock] at hk; omega)
  obtain ⟨p6, q6, rfl⟩ := sowns_form ho6
  have HO6 := Lib.hid ho6
  have u6 := upd_of_below (S := fun _ => False) hl6
  have HA6 := Lib.hid (HA.out.keep u6 (fun h => h))
  have HZ6 := Lib.hid (HZ.out.keep u6 (fun h => h))
  have HB6 := Lib.hid (HB.out.trans (hl6.mono HB.out.size))
  have hl4 : w.heap.size + 1 < w2.heap.size := HZ.out.lt
  clear ho6 hg6 u6 hl6 y0a y0 x0 HO
  have y0 := HA6.out.c0
  have y1 := HA6.out.c1
  have y2 := HA6.out.c2
  have y3 := HA6.out.c3
  have k0 := HA6.out.f0
  have z0 := HZ6.out.c0
  have z1 := HZ6.out.c1
  have z2 := HZ6.out.c2
  have z3 := HZ6.out.c3
  have g0 := HZ6.out.f0
  have g1 := HZ6.out.f1
  have g2 := HZ6.out.f2
  have g3 := HZ6.out.f3
  have hl := HZ6.out.lt
  go_wp2_with fail
  refine bodyPost_ret (v := .tuple #[.agg #[.slice p6 n0 q6, .slice p1 n1 q1, .int .i64 m0, .int .i64 m1], .string x, .bool true]) (by simp [results, Try.results23, go_sem, y0, y1, y2, y3, z0, z1, z2, z3, hl]) rfl ⟨p6, q6, rfl, ?_, ((((HB6.out.setCell (p := ⟨w.heap.size, 0, none⟩) (Nat.le_refl _) _).setCell (p := ⟨w.heap.size + 1, 0, none⟩) (Nat.le_succ _) _).setCell (p := ⟨w.heap.size + 1, 1, none⟩) (Nat.le_succ _) _).setCell (p := ⟨w.heap.size + 1, 2, none⟩) (Nat.le_succ _) _).setCell (p := ⟨w.heap.size + 1, 3, none⟩) (Nat.le_succ _) _⟩
  have ho := HO6.out
  have ho := ownsRow_setCell_below ho (a := ⟨w.heap.size, 0, none⟩) (by show w.heap.size < _; omega) (.slice p6 n0 q6)
  have ho := ownsRow_setCell_below ho (a := ⟨w.heap.size + 1, 0, none⟩) hl4 (.slice p6 n0 q6)
  have ho := ownsRow_setCell_below ho (a := ⟨w.heap.size + 1, 1, none⟩) hl4 (.slice p1 n1 q1)
  have ho := ownsRow_setCell_below ho (a := ⟨w.heap.size + 1, 2, none⟩) hl4 (.int .i64 m0)
  have ho := ownsRow_setCell_below ho (a := ⟨w.heap.size + 1, 3, none⟩) hl4 (.int .i64 m1)
  exact owns_mono ho (by omega)
/-! ### The usual lane -/
set_option maxHeartbeats 1000000 in
theorem r_take_b (p0 : Option Addr) (q0 : Nat) (p1 : Option Addr) (n1 q1 : Nat) (m0 m1 : Nat) (x : ByteArray) (w : World) (h0 : n1 ≤ 1000) (lo : Nat) (L1 : List ByteArray) (hrow : w.ownsRow lo 9 1 (.slice p1 (n1 + 1) q1) (n1 + 1) (strs (x :: L1))) :
    Calls Try.prog 23 #[.agg #[.slice p0 0 q0, .slice p1 (n1 + 1) q1, .int .i64 m0, .int .i64 m1]] w fun e w' =>
      ∃ p q, e = .returned (.tuple #[.agg #[.slice p0 0 q0, .slice p n1 q, .int .i64 m0, .int .i64 m1], .string x, .bool true]) ∧ w'.ownsRow w.heap.size 9 1 (.slice p n1 q) n1 (strs L1) ∧ Below w.heap.size w w' := by
  obtain ⟨ti, hi, ht0, ht1, ht2⟩ := info_parts info9
  have HI := Lib.hid (And.intro hi (And.intro ht0 (And.intro ht1 ht2))); clear hi ht0 ht1 ht2
  obtain ⟨fa, fb, hb⟩ := two_fours w (.slice p0 0 q0) (.slice p1 (n1 + 1) q1) (.int .i64 m0) (.int .i64 m1)
  obtain ⟨g, rfl, hgc, hgq⟩ := srow_cells hrow
  have HA := Lib.hid fa
  have HZ := Lib.hid fb
  have y0 := fa.c0
  have y1 := fa.c1
  have x0 := (upd_of_below (S := fun _ => False) hb).cell (hgc 0 _ rfl) (fun h => h)
  have HG := Lib.hid hgc
  have HB := Lib.hid hb
  clear fa fb hb hgc
  go_enter Try.func23, Try.ntmps23
  go_wp2_with fail
  generalize World.alloc (World.alloc w _) _ = w2 at *
  refine wp_loop_rounds 3 ?_
  rw [rounds_succ]
  go_wp2_with fail
  rw [rounds_succ]
  go_upto_region 6 with (fail)
  have ua := upd_alloc (fun _ => False) w2 (Obj.cells #[] 9)
  have y0a := ua.cell y1 (fun h => h)
  have HO := Lib.hid (owns_empty w2)
  obtain ⟨off, hsl, hoff⟩ := slice_tail g n1 q1 hgq.1
  clear ua
  go_upto_region 7 with (at_builtin; refine wpList_append_own2 _ rfl (.tmp 24) (.tmp 29) 34 rfl w2.heap.size 9 ti (.string ⟨#[]⟩) 1 16 Try.underlying34 HI.out.1 HI.out.2.1 HI.out.2.2.1 HI.out.2.2.2 rfl (by decide) _ 0 [] rfl HO.out ⟨g, off, none⟩ n1 (q1 - 1) (strs L1) rfl ?c0 ?c1 (strs_one L1) ?c3 ?c4 ?c5 ?_)
  case c0 => have := hrow.1; simp [strs] at this ⊢; omega
  case c1 =>
    intro j u hu
    have hj : j < n1 := by
      have := hrow.1
      have h2 := (List.getElem?_eq_some_iff.1 hu).1
      simp [strs] at this h2
      omega
    obtain rfl := hoff (by omega)
    have e : (⟨g, 1, none⟩ : Addr).add j = ⟨g, j + 1, none⟩ := by unfold Addr.add; split <;> simp_all [Nat.add_comm]
    rw [e]
    exact (upd_alloc (fun _ => False) w2 _).cell ((upd_of_below (S := fun _ => False) HB.out).cell (HG.out (j + 1) u hu) (fun h => h)) (fun h => h)
  case c3 => unfold maxLen; omega
  case c4 => omega
  case c5 => simp
  intro v6 w6 ho6 hg6 _
  have hl6 : Below w2.heap.size w2 w6 := ((Below.refl _ w2).alloc (Nat.le_refl _) _).grown hg6 (by simp) (fun k hk => by simp [Value.ownBlock] at hk; omega)
  obtain ⟨p6, q6, rfl⟩ := sowns_form ho6
  have HO6 := Lib.hid ho6
  have u6 := upd_of_below (S := fun _ => False) hl6
  have HA6 := Lib.hid (HA.out.keep u6 (fun h => h))
  have HZ6 := Lib.hid (HZ.out.keep u6 (fun h => h))
  have HB6 := Lib.hid (HB.out.trans (hl6.mono HB.out.size))
  have hl4 : w.heap.size + 1 < w2.heap.size := HZ.out.lt
  clear ho6 hg6 u6 hl6 y0a y0 y1 x0 HO
  have y0 := HA6.out.c0
  have y1 := HA6.out.c1
  have y2 := HA6.out.c2
  have y3 := HA6.out.c3
  have k0 := HA6.out.f1
  have z0 := HZ6.out.c0
  have z1 := HZ6.out.c1
  have z2 := HZ6.out.c2
  have z3 := HZ6.out.c3
  have g0 := HZ6.out.f0
  have g1 := HZ6.out.f1
  have g2 := HZ6.out.f2
  have g3 := HZ6.out.f3
  have hl := HZ6.out.lt
  go_wp2_with fail
  refine bodyPost_ret (v := .tuple #[.agg #[.slice p0 0 q0, .slice p6 n1 q6, .int .i64 m0, .int .i64 m1], .string x, .bool true]) (by simp [results, Try.results23, go_sem, y0, y1, y2, y3, z0, z1, z2, z3, hl]) rfl ⟨p6, q6, rfl, ?_, ((((HB6.out.setCell (p := ⟨w.heap.size, 1, none⟩) (Nat.le_refl _) _).setCell (p := ⟨w.heap.size + 1, 0, none⟩) (Nat.le_succ _) _).setCell (p := ⟨w.heap.size + 1, 1, none⟩) (Nat.le_succ _) _).setCell (p := ⟨w.heap.size + 1, 2, none⟩) (Nat.le_succ _) _).setCell (p := ⟨w.heap.size + 1, 3, none⟩) (Nat.le_succ _) _⟩
  have ho := HO6.out
  have ho := ownsRow_setCell_below ho (a := ⟨w.heap.size, 1, none⟩) (by show w.heap.size < _; omega) (.slice p6 n1 q6)
  have ho := ownsRow_setCell_below ho (a := ⟨w.heap.size + 1, 0, none⟩) hl4 (.slice p0 0 q0)
  have ho := ownsRow_setCell_below ho (a := ⟨w.heap.size + 1, 1, none⟩) hl4 (.slice p6 n1 q6)
  have ho := ownsRow_setCell_below ho (a := ⟨w.heap.size + 1, 2, none⟩) hl4 (.int .i64 m0)
  have ho := ownsRow_setCell_below ho (a := ⟨w.heap.size + 1, 3, none⟩) hl4 (.int .i64 m1)
  exact owns_mono ho (by omega)
end Go.Proofs.Ytohjikijgcpnnaa
