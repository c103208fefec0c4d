/-
  The reference's All; same; Room of an outbox; Few.
-/
import Derived.Test.YtohjikijgcpnnaaRefTake
namespace Go.Proofs.Ytohjikijgcpnnaa
open Go.RowKit Go.Conc

/-- At a step of a drawn region: an append of a row of texts to one of the call's own. -/
theorem step_append_src (w : World) {ops : Array Oper} {o : Oper} {a : Act} {K : Act → World → Prop} {Q : Exit → Act → World → Prop} {E : Prop} (hgd : o.guard = none) (s x : Operand)
    (ho : o.op = .call { callee := .builtin .append, args := #[s, x], argTypes := #[34, 34] })
    (base lo : Nat) (v : Value) (n : Nat) (xs : List ByteArray) (hs : a.eval s = v) (hown : w.ownsRow base 9 1 v n (strs xs))
    (sv : Value) (m : Nat) (L : List ByteArray) (hx : a.eval x = sv) (hsrc : w.ownsRow lo 9 1 sv m (strs L)) (hsm : n + m ≤ 1000) (hbase : base ≤ w.heap.size)
    (h : ∀ p q w', w'.ownsRow base 9 1 (.slice p (n + m) q) (n + m) (strs (xs ++ L)) → Below base w w' → K (a.put o.dst (.slice p (n + m) q)) w') :
    if Region.wanted o (yielded ops a.tmps) = true then Oper.wp Try.prog o a w K Q else E := by
  have hw : Region.wanted o (yielded ops a.tmps) = true := by simp [Region.wanted, hgd]
  rw [if_pos hw]
  obtain ⟨ti, hi, ht0, ht1, ht2⟩ := info_parts info9
  have key : ∃ v' w', (Builtin.append_ #[34, 34] o.type #[v, sv]).run Try.prog w = .ok v' w' ∧ w'.ownsRow base 9 1 v' (n + m) (strs (xs ++ L)) ∧ Below base w w' := by
    rcases hsrc.2 with ⟨rfl, rfl⟩ | ⟨g, cap, cur, rfl, _⟩
    · have hn : L = [] := by have := hsrc.1; simp [strs] at this; exact this
      subst hn
      obtain ⟨c, hc⟩ := sowns_form hown
      refine ⟨v, w, ?_, by simpa using hown, Below.refl _ _⟩
      exact run_append_owned_none (P := Try.prog) w base 34 o.type 9 ti 1 Try.underlying34 hi v n (strs xs) hown
    · obtain ⟨v', w', hr, h2, h3, _⟩ := run_append_own2 (P := Try.prog) w base 34 o.type 9 ti (.string ⟨#[]⟩) 1 16 Try.underlying34 hi ht0 ht1 ht2 rfl (by decide) v n (strs xs) hown ⟨g, 0, none⟩ m cap (strs L) hsrc.1 (hsrc.cells (g := g) rfl) (strs_one L) (by unfold maxLen; omega) (by omega) hbase
      rw [← strs_app] at h2
      exact ⟨v', w', hr, h2, (Below.refl _ w).grown h3 hbase (fun k hk => (hown.lt k hk).1)⟩
  obtain ⟨v', w', hr, h2, h3⟩ := key
  obtain ⟨p, q, rfl⟩ := sowns_form h2
  unfold Oper.wp execOp
  simp only [ho, resolve, invoke, builtin, Sem.run_bind, Sem.run_pure, Result.andThen_ok, List.map_toArray, List.map_cons, List.map_nil, hs, hx, hr]
  exact h p q w' h2 h3

/-- .. to nothing. -/
theorem step_append_first (w : World) {ops : Array Oper} {o : Oper} {a : Act} {K : Act → World → Prop} {Q : Exit → Act → World → Prop} {E : Prop} (hgd : o.guard = none) (s x : Operand)
    (ho : o.op = .call { callee := .builtin .append, args := #[s, x], argTypes := #[34, 34] })
    (base lo : Nat) (v : Value) (hs : a.eval s = v) (hown : w.ownsRow base 9 1 v 0 [])
    (sv : Value) (m : Nat) (L : List ByteArray) (hx : a.eval x = sv) (hsrc : w.ownsRow lo 9 1 sv m (strs L)) (hsm : m ≤ 1000) (hbase : base ≤ w.heap.size)
    (h : ∀ p q w', w'.ownsRow base 9 1 (.slice p m q) m (strs L) → Below base w w' → K (a.put o.dst (.slice p m q)) w') :
    if Region.wanted o (yielded ops a.tmps) = true then Oper.wp Try.prog o a w K Q else E := by
  refine step_append_src w hgd s x ho base lo v 0 [] hs hown sv m L hx hsrc (by omega) hbase fun p q w' h1 h2 => ?_
  rw [Nat.zero_add, List.nil_append] at h1
  rw [Nat.zero_add]
  exact h p q w' h1 h2

theorem s_room_t {B c0 c1 k0 k1 : Nat} {l0 l1 : List Value} (w : World) (h : Box w B c0 c1 k0 k1 l0 l1) (hk : k0 ≤ 8) (h0 : l0.length ≤ 1000) :
    Calls Try.prog 28 #[.pointer (some ⟨B, 0, none⟩), .bool true] w fun e w' => e = .returned (.int .i64 ((k0 : Int) - l0.length)) ∧ w = w' := by
  obtain ⟨s0, r0, a⟩ := h.a
  have hl0 := fun ty => run_len_chan (P := Try.prog) (w := w) 72 ty Try.underlying72 a
  have hc0 := fun ty => run_cap_chan (P := Try.prog) (w := w) 72 ty Try.underlying72 a
  have HB := Lib.hid h
  clear a h
  go_enter Try.func28, Try.ntmps28
  go_wp2_with fail
  refine (s_lane_t _ HB.out).mono ?_
  rintro e w2 ⟨rfl, rfl⟩
  go_wp2_with fail
  go_ret
  exact ⟨by simp, rfl⟩
theorem s_room_f {B c0 c1 k0 k1 : Nat} {l0 l1 : List Value} (w : World) (h : Box w B c0 c1 k0 k1 l0 l1) (hk : k1 ≤ 8) (h0 : l1.length ≤ 1000) :
    Calls Try.prog 28 #[.pointer (some ⟨B, 0, none⟩), .bool false] w fun e w' => e = .returned (.int .i64 ((k1 : Int) - l1.length)) ∧ w = w' := by
  obtain ⟨s0, r0, a⟩ := h.b
  have hl0 := fun ty => run_len_chan (P := Try.prog) (w := w) 72 ty Try.underlying72 a
  have hc0 := fun ty => run_cap_chan (P := Try.prog) (w := w) 72 ty Try.underlying72 a
  have HB := Lib.hid h
  clear a h
  go_enter Try.func28, Try.ntmps28
  go_wp2_with fail
  refine (s_lane_f _ HB.out).mono ?_
  rintro e w2 ⟨rfl, rfl⟩
  go_wp2_with fail
  go_ret
  exact ⟨by simp, rfl⟩

/-- Two rows of texts, alike. -/
theorem same_eq (p0 p1 : Option Addr) (n q0 q1 lo0 lo1 : Nat) (L : List ByteArray) (w : World) (hn : n ≤ 1000) (h0 : w.ownsRow lo0 9 1 (.slice p0 n q0) n (strs L)) (h1 : w.ownsRow lo1 9 1 (.slice p1 n q1) n (strs L)) :
    Calls Try.prog 24 #[.slice p0 n q0, .slice p1 n q1] w fun e w' => e = .returned (.bool true) ∧ Below w.heap.size w w' := by
  have hL : L.length = n := by have := h0.1; simp [strs] at this; exact this
  have H0 := Lib.hid h0
  have H1 := Lib.hid h1
  clear h0 h1
  go_enter Try.func24, Try.ntmps24
  go_wp2_with fail
  go_loopw [5] (fun i wr => ∃ j : Nat, j ≤ n ∧ i = .int .i64 j ∧ Below w.heap.size w wr) (fun i _ => n - (intOf i).toNat)
  case atStart => exact ⟨0, Nat.zero_le _, rfl, Below.refl _ _⟩
  case round =>
    obtain ⟨j, hj, rfl, hb⟩ := hrel
    rename_i wr
    by_cases hjn : j < n
    · have h0 := owns_upd2 H0.out (upd_of_below (S := fun _ => False) hb) (fun _ _ h => h)
      have h1 := owns_upd2 H1.out (upd_of_below (S := fun _ => False) hb) (fun _ _ h => h)
      obtain ⟨n9, rfl⟩ : ∃ n9, n = n9 + 1 := ⟨n - 1, by omega⟩
      obtain ⟨g0, rfl, c0, _⟩ := srow_cells h0
      obtain ⟨g1, rfl, c1, _⟩ := srow_cells h1
      have hx : (strs L)[j]? = some (.string (L[j]'(by omega))) := by simp [strs, List.getElem?_eq_getElem (show j < L.length by omega)]
      have x0 := c0 j _ hx
      have x1 := c1 j _ hx
      generalize L[j]'(by omega) = X at *
      have HB := Lib.hid hb
      clear hb h0 h1 c0 c1 hx
      have hji : (j : Int) < ((n9 + 1 : Nat) : Int) := by omega
      go_wp2_with fail
      go_quiet (fail)
      go_wp2_with fail
      go_roundw
      case rel => exact ⟨j + 1, by omega, by go_num, HB.out.trans (below_drewN2 _ _ _)⟩
      case measure => simp [intOf]; omega
    · have hjn9 : j = n := by omega
      subst hjn9
      have HB := Lib.hid hb
      clear hb
      go_wp2_with fail
      go_ret
      exact ⟨rfl, HB.out⟩

theorem r_all (p0 : Option Addr) (n0 q0 : Nat) (p1 : Option Addr) (n1 q1 : Nat) (m0 m1 : Nat) (w : World) (h0 : n0 ≤ 100) (h1 : n1 ≤ 100) (lo : Nat) (L0 L1 : List ByteArray)
    (r0 : w.ownsRow lo 9 1 (.slice p0 n0 q0) n0 (strs L0)) (r1 : w.ownsRow lo 9 1 (.slice p1 n1 q1) n1 (strs L1)) :
    Calls Try.prog 26 #[.agg #[.slice p0 n0 q0, .slice p1 n1 q1, .int .i64 m0, .int .i64 m1]] w fun e w' =>
      ∃ p q, e = .returned (.slice p (n0 + n1) q) ∧ w'.ownsRow w.heap.size 9 1 (.slice p (n0 + n1) q) (n0 + n1) (strs (L0 ++ L1)) ∧ Below w.heap.size w w' := by
  have fa := four_new w (.slice p0 n0 q0) (.slice p1 n1 q1) (.int .i64 m0) (.int .i64 m1) 53
  have hb := (Below.refl w.heap.size w).alloc (Nat.le_refl _) (Obj.cells #[.slice p0 n0 q0, .slice p1 n1 q1, .int .i64 m0, .int .i64 m1] 53)
  have y0 := fa.c0
  have y1 := fa.c1
  have hlt := fa.lt
  have R0 := Lib.hid (owns_upd2 r0 (upd_of_below (S := fun _ => False) hb) (fun _ _ h => h))
  have R1 := Lib.hid (owns_upd2 r1 (upd_of_below (S := fun _ => False) hb) (fun _ _ h => h))
  have HB := Lib.hid hb
  clear fa hb r0 r1
  go_enter Try.func26, Try.ntmps26
  go_wp2_with fail
  generalize World.alloc w _ = wa at *
  go_region_held3 (fun w' => w'.cell? ⟨w.heap.size, 0, none⟩ = some (.slice p0 n0 q0) ∧ w'.cell? ⟨w.heap.size, 1, none⟩ = some (.slice p1 n1 q1))
    (first
      | go_keep
      | (go_split_ands
         refine ⟨?_, ?_⟩
         · (rw [hl2.cell (p := ⟨w.heap.size, 0, none⟩) hlt]; assumption)
         · (rw [hl2.cell (p := ⟨w.heap.size, 1, none⟩) hlt]; assumption))
      | (go_split_ands
         refine ⟨?_, ?_⟩
         · (rw [hl1.cell (p := ⟨w.heap.size, 0, none⟩) hlt]; assumption)
         · (rw [hl1.cell (p := ⟨w.heap.size, 1, none⟩) hlt]; assumption)))
    (first
      | (refine step_append_first _ (by rfl) (.tmp 3) (.tmp 6) (by rfl) wa.heap.size lo _ (by rfl) (owns_empty _) _ n0 L0 (by rfl) (owns_upd2 R0.out (upd_of_below (S := fun _ => False) ((below_drewN2 wa.heap.size wa 1).alloc (Nat.le_refl _) _)) (fun _ _ h => h)) (by omega) (by simp) ?_; intro pm qm wm hom hl1)
      | (refine step_append_src _ (by rfl) (.tmp 7) (.tmp 10) (by rfl) wa.heap.size lo (.slice pm n0 qm) n0 L0 (by rfl) hom _ n1 L1 (by rfl) (owns_upd2 R1.out (upd_of_below (S := fun _ => False) (((below_drewN2 wa.heap.size wa 1).alloc (Nat.le_refl _) _).trans hl1)) (fun _ _ h => h)) (by omega) (Nat.le_trans (by simp) hl1.size) ?_; intro p2 q2 w2 ho2 hl2))
  go_wp2_with fail
  go_ret
  exact ⟨p2, q2, rfl, owns_mono ho2 (by omega), HB.out.trans ((((below_drewN2 wa.heap.size wa 1).alloc (Nat.le_refl _) _).trans (hl1.trans hl2)).mono (by omega))⟩
end Go.Proofs.Ytohjikijgcpnnaa
