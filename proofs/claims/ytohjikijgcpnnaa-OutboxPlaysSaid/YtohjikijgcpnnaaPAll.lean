/-
  The contract of All for pairs, where the urgent lane is empty.
-/
import Derived.Test.YtohjikijgcpnnaaSAll
import Derived.Test.YtohjikijgcpnnaaPTake
namespace Go.Proofs.Ytohjikijgcpnnaa
open Go.RowKit Go.Conc

def prs (L : List (Int × Int)) : List Value := L.map fun p => .agg #[.int .i64 p.1, .int .i64 p.2]
def prf (L : List (Int × Int)) : List Value := L.flatMap fun p => [.int .i64 p.1, .int .i64 p.2]
theorem prs_app (A B : List (Int × Int)) : prs (A ++ B) = prs A ++ prs B := by simp [prs]
theorem prs_len (A : List (Int × Int)) : (prs A).length = A.length := by simp [prs]
theorem prf_app (A B : List (Int × Int)) : prf (A ++ B) = prf A ++ prf B := by simp [prf]
theorem prf_len : ∀ (A : List (Int × Int)), (prf A).length = A.length * 2
  | [] => rfl
  | a :: A => by
    show (prf A).length + 1 + 1 = _
    rw [prf_len A]
    simp
    omega
theorem info39 : (Try.prog.info? 39).map (fun i => (i.zero, i.size, i.bytes)) = some (some (.agg #[.int .i64 0, .int .i64 0]), 2, 16) := by kernel_rfl
theorem pair_one (x y : Int) : ∀ u ∈ [Value.int .i64 x, .int .i64 y], u.oneCell' = true := fun u hu => by
  simp at hu
  rcases hu with rfl | rfl <;> rfl
theorem pturn_step (L : List (Int × Int)) (j : Nat) (h : j < L.length) : prs (L.drop j ++ L.take j) = .agg #[.int .i64 L[j].1, .int .i64 L[j].2] :: prs (L.drop (j + 1) ++ L.take j) ∧ prs (L.drop (j + 1) ++ L.take j) ++ [.agg #[.int .i64 L[j].1, .int .i64 L[j].2]] = prs (L.drop (j + 1) ++ L.take (j + 1)) := by
  constructor
  · rw [List.drop_eq_getElem_cons h]
    rfl
  · rw [List.take_succ_eq_append_getElem h, ← List.append_assoc, prs_app _ [L[j]]]
    rfl
theorem pturn_len (L : List (Int × Int)) (j : Nat) (h : j ≤ L.length) : (L.drop j ++ L.take j).length = L.length := by
  rw [List.length_append, List.length_drop, List.length_take]
  omega
/-- Two cells of a new block. -/
theorem cell_two (w : World) (a b : Value) (t : TypeId) : ∀ j u, [a, b][j]? = some u → (w.alloc (.cells #[a, b] t)).cell? ((⟨w.heap.size, 0, none⟩ : Addr).add j) = some u := by
  intro j u hu
  have hj : j < 2 := by
    rcases Nat.lt_or_ge j 2 with h | h
    · exact h
    · rw [List.getElem?_eq_none (by simpa using h)] at hu
      cases hu
  have e : (⟨w.heap.size, 0, none⟩ : Addr).add j = ⟨w.heap.size, j, none⟩ := by unfold Addr.add; split <;> simp_all
  rw [e, World.cell?_alloc_mark w _ t (0, 0) j]
  rcases (show j = 0 ∨ j = 1 by omega) with rfl | rfl <;> simpa using hu

set_option maxRecDepth 20000 in
set_option maxHeartbeats 2000000 in
theorem p_all {B c0 c1 k0 k1 : Nat} {L1 : List (Int × Int)} (w : World) (h : Box w B c0 c1 k0 k1 [] (prs L1)) (z1 : L1.length ≤ k1) (z3 : L1.length ≤ 60) :
    Calls Try.prog 16 #[.pointer (some ⟨B, 0, none⟩)] w fun e w' => ∃ v, e = .returned v ∧ w'.ownsRow w.heap.size 39 2 v L1.length (prf L1) ∧ Box w' B c0 c1 k0 k1 [] (prs L1) ∧ Upd (fun k => k = c0 ∨ k = c1) w w' := by
  have i0 : ∀ w, (Instr.index 77 (.agg #[.chan (some c0), .chan (some c1)]) (.int .i64 0)).run Try.prog w = .ok (.chan (some c0)) w := fun _ => by kernel_rfl
  have i1 : ∀ w, (Instr.index 77 (.agg #[.chan (some c0), .chan (some c1)]) (.int .i64 1)).run Try.prog w = .ok (.chan (some c1)) w := fun _ => by kernel_rfl
  obtain ⟨ti, hi, hz0, hz1, hz2⟩ := info_parts info39
  have HI := Lib.hid (And.intro hi (And.intro hz0 (And.intro hz1 hz2))); clear hi hz0 hz1 hz2
  have h0 := h.p0
  have h1 := h.p1
  have HB := Lib.hid h; clear h
  go_enter Try.func16, Try.ntmps16
  go_wp2_with fail
  clear h0 h1
  refine wp_loop_rounds 3 ?_
  rw [rounds_succ]
  obtain ⟨s0, r0, hc⟩ := HB.out.a
  have hlen := fun ty => run_len_chan (P := Try.prog) (w := w) 76 ty Try.underlying76 hc
  clear hc
  go_wp2_with fail
  clear hlen
  refine wp_loop_rounds 1 ?_
  rw [rounds_succ]
  go_wp2_with fail
  rw [rounds_succ]
  obtain ⟨s1, r1, hc⟩ := HB.out.b
  have hlen := fun ty => run_len_chan (P := Try.prog) (w := w) 76 ty Try.underlying76 hc
  have hls : ((prs L1).length : Int) = (L1.length : Int) := by rw [prs_len]
  clear hc
  go_wp2_with fail
  clear hlen hls
  go_loopw [3, 6, 7, 17] (fun out _ _ i wr => ∃ (j : Nat) (v : Value), j ≤ L1.length ∧ i = .int .i64 j ∧ v = out ∧ Box wr B c0 c1 k0 k1 [] (prs (L1.drop j ++ L1.take j)) ∧ wr.ownsRow w.heap.size 39 2 v j (prf (L1.take j)) ∧ Upd (fun k => k = c0 ∨ k = c1) w wr) (fun _ _ _ i _ => L1.length - (intOf i).toNat)
  case atStart => exact ⟨0, _, Nat.zero_le _, rfl, rfl, by simpa using HB.out, by simpa [prf] using World.ownsRow_nil w w.heap.size 39 2, Upd.refl _ _⟩
  case round =>
    obtain ⟨j, v, hj, rfl, rfl, hb, ho, hu⟩ := hrel
    rename_i wr
    by_cases hjl : j < L1.length
    · have hts := pturn_step L1 j hjl
      have htl := pturn_len L1 (j + 1) hjl
      have htk : prf (L1.take (j + 1)) = prf (L1.take j) ++ [.int .i64 L1[j].1, .int .i64 L1[j].2] := by rw [List.take_succ_eq_append_getElem hjl, prf_app _ [L1[j]]]; rfl
      generalize L1[j].1 = X at *
      generalize L1[j].2 = Y at *
      rw [hts.1] at hb
      have HT := Lib.hid hts.2
      have HTL := Lib.hid htl
      have HTK := Lib.hid htk
      have HBR := Lib.hid hb
      have HOR := Lib.hid ho
      have HUR := Lib.hid hu
      clear hts htl htk hb ho hu
      go_wp2_with fail
      refine (p_take_some c1 k1 X Y _ _ HBR.out.b).mono ?_
      rintro e w2 ⟨rfl, hl2, hu2⟩
      have HB2 := Lib.hid (HBR.out.setB hu2 hl2)
      have HO2 := Lib.hid (owns_upd2 HOR.out hu2 (fun g hg e => by have := (HOR.out.lt g hg).1; have e : g = c1 := e; have := HB.out.b.lt; omega))
      have HU2 := Lib.hid (HUR.out.trans (hu2.mono fun k _ hk => Or.inr hk))
      have hz2 := HU2.out.size
      clear hl2 hu2
      go_upto_region 9 with (at_builtin; refine wpList_append_own2 _ rfl (.tmp 24) (.tmp 26) 44 rfl w.heap.size 39 ti (.agg #[.int .i64 0, .int .i64 0]) 2 16 Try.underlying44 HI.out.1 HI.out.2.1 HI.out.2.2.1 HI.out.2.2.2 rfl (by decide) v j (prf (L1.take j)) rfl ((HO2.out.alloc _).alloc _) ⟨w2.heap.size + 1, 0, none⟩ 1 1 [.int .i64 X, .int .i64 Y] rfl rfl ?c1 ?c2 ?c3 ?c4 ?c5 ?_)
      case c1 => have := cell_two (w2.alloc (.cells #[.int .i64 X, .int .i64 Y] 39)) (.int .i64 X) (.int .i64 Y) 39; simpa using this
      case c2 => exact pair_one _ _
      case c3 => unfold maxLen; omega
      case c4 => omega
      case c5 => simp; omega
      intro v' w3 ho3 hg3 _
      have HO3 := Lib.hid (show w3.ownsRow w.heap.size 39 2 v' (j + 1) (prf (L1.take (j + 1))) from by rw [HTK.out]; exact ho3)
      have hg3 := upd_grown hg3
      have hlow := HO2.out.lt
      have ua := upd_alloc (fun k => w.heap.size ≤ k) w2 (.cells #[.int .i64 X, .int .i64 Y] 39)
      have ub := upd_alloc (fun k => w.heap.size ≤ k) (w2.alloc (.cells #[.int .i64 X, .int .i64 Y] 39)) (.cells #[.int .i64 X, .int .i64 Y] 39)
      have hU23 : Upd (fun k => w.heap.size ≤ k) w2 w3 := (ua.trans ub).trans (hg3.mono (fun k _ hk => (hlow k hk.symm).1))
      obtain ⟨q0, q1, _, _⟩ := pair_cells w2 (.int .i64 X) (.int .i64 Y) 39
      have hnr : ¬ some w2.heap.size = v.ownBlock := fun e => by have := (hlow _ e.symm).2; omega
      have ub' := upd_alloc (fun _ => False) (w2.alloc (.cells #[.int .i64 X, .int .i64 Y] 39)) (.cells #[.int .i64 X, .int .i64 Y] 39)
      have x0 := hg3.cell (ub'.cell q0 (fun h => h)) hnr
      have x1 := hg3.cell (ub'.cell q1 (fun h => h)) hnr
      have hlt0 := HB.out.a.lt
      have hlt1 := HB.out.b.lt
      have hltB : B < w.heap.size := cell_lt HB.out.p0
      have HB3 := Lib.hid (HB2.out.keep hU23 (by omega) (by omega) (by omega))
      have HU3 := Lib.hid (HU2.out.above hU23)
      clear hg3 ho3 hU23 hlow ua ub ub' q0 q1 hnr
      go_upto_region 9 with (fail)
      obtain ⟨s9, r9, hc9⟩ := HB3.out.b
      have HC9 := Lib.hid hc9; clear hc9
      refine wp_region_steps 3 (fun b k cs => Steps.head (step_val (i := 0) (v := .chan (some c1)) (w' := w3) rfl rfl (by simp [go_sem, execOp, Act.eval])) (Steps.head (step_val (i := 1) (v := .agg #[.int .i64 X, .int .i64 Y]) (w' := w3) rfl rfl (by simp [go_sem, execOp, Act.eval, Act.put, x0, x1])) (Steps.one (step_put (i := 2) (c := c1) (v := .agg #[.int .i64 X, .int .i64 Y]) (z := .tuple #[]) rfl rfl (by simp [go_sem, execOp, scase, Act.eval, Act.put]) HC9.out (by simp only [List.size_toArray, prs_len]; have := HTL.out; rw [List.length_append, List.length_take] at this; rw [List.length_append, List.length_take]; omega))))) ?_
      have hpush : (prs (L1.drop (j + 1) ++ L1.take j)).toArray.push (.agg #[.int .i64 X, .int .i64 Y]) = (prs (L1.drop (j + 1) ++ L1.take (j + 1))).toArray := by rw [← HT.out]; simp
      rw [hpush]
      have hu9 := upd_setChan w3 c1 k1 (prs (L1.drop (j + 1) ++ L1.take (j + 1))).toArray false (s9 + 1) r9
      have hb9 := heap_setChan w3 c1 k1 (prs (L1.drop (j + 1) ++ L1.take (j + 1))).toArray false (s9 + 1) r9 false (heap_lt HC9.out)
      generalize World.setChan w3 c1 k1 (prs (L1.drop (j + 1) ++ L1.take (j + 1))).toArray false (s9 + 1) r9 false = w9 at *
      have HB9 := Lib.hid (HB3.out.setB hu9 ⟨_, _, hb9⟩)
      have HU9 := Lib.hid (HU3.out.trans (hu9.mono fun k _ hk => Or.inr hk))
      have HO9 := Lib.hid (owns_upd2 HO3.out hu9 (fun g hg e => by have := (HO3.out.lt g hg).1; have e : g = c1 := e; omega))
      clear hpush hu9 hb9 hlt0 hlt1 hltB x0 x1
      go_wp2_with fail
      go_roundw
      case rel => exact ⟨j + 1, _, by omega, by go_num, rfl, HB9.out, HO9.out, HU9.out⟩
      case measure => simp [intOf]; omega
    · have hjl9 : j = L1.length := by omega
      subst hjl9
      rw [List.drop_length, List.nil_append, List.take_length] at hb
      rw [List.take_length] at ho
      go_wp2_with fail
      rw [rounds_succ]
      go_wp2_with fail
      go_ret
      exact ⟨_, rfl, ho, hb, hu⟩
end Go.Proofs.Ytohjikijgcpnnaa
