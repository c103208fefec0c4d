/-
  The contract of All for strings.
-/
import Derived.Test.YtohjikijgcpnnaaSlices
namespace Go.Proofs.Ytohjikijgcpnnaa
open Go.RowKit Go.Conc

def strs (L : List ByteArray) : List Value := L.map Value.string
theorem strs_app (A B : List ByteArray) : strs (A ++ B) = strs A ++ strs B := by simp [strs]
theorem strs_len (A : List ByteArray) : (strs A).length = A.length := by simp [strs]
theorem info9 : (Try.prog.info? 9).map (fun i => (i.zero, i.size, i.bytes)) = some (some (.string ⟨#[]⟩), 1, 16) := by kernel_rfl
theorem str_one (x : ByteArray) : ∀ u ∈ [Value.string x], u.oneCell' = true := fun u hu => by
  simp at hu
  subst hu
  rfl
/-- A row is kept by what does not touch it. -/
theorem owns_upd2 {S : Nat → Prop} {w w' : World} {base e size : Nat} {v : Value} {n : Nat} {xs : List Value} (h : w.ownsRow base e size v n xs) (hu : Upd S w w') (hn : ∀ g, v.ownBlock = some g → ¬ S g) : w'.ownsRow base e size v n xs := by
  refine ⟨h.1, ?_⟩
  rcases h.2 with h2 | ⟨g, cap, cur, rfl, hb, hgg, rest⟩
  · exact .inl h2
  · exact .inr ⟨g, cap, cur, rfl, hb, by rw [hu.block g (heap_lt hgg) (hn g rfl)]; exact hgg, rest⟩
theorem Upd.above {S : Nat → Prop} {w w2 w3 : World} (h : Upd S w w2) (k : Upd (fun k => w.heap.size ≤ k) w2 w3) : Upd S w w3 :=
  ⟨k.os.trans h.os, k.tape.trans h.tape, k.output.trans h.output, Nat.le_trans h.size k.size, fun i hi hs => (k.block i (Nat.lt_of_lt_of_le hi h.size) (by omega)).trans (h.block i hi hs)⟩
theorem turn_step (L : List ByteArray) (j : Nat) (h : j < L.length) : strs (L.drop j ++ L.take j) = .string L[j] :: strs (L.drop (j + 1) ++ L.take j) ∧ strs (L.drop (j + 1) ++ L.take j) ++ [.string L[j]] = strs (L.drop (j + 1) ++ L.take (j + 1)) := by
  constructor
  · rw [List.drop_eq_getElem_cons h]
    rfl
  · rw [List.take_succ_eq_append_getElem h, ← List.append_assoc, strs_app _ [L[j]]]
    rfl
theorem turn_len (L : List ByteArray) (j : Nat) (h : j ≤ L.length) : (L.drop j ++ L.take j).length = L.length := by
  rw [List.length_append, List.length_drop, List.length_take]
  omega

set_option maxRecDepth 20000 in
set_option maxHeartbeats 2000000 in
theorem s_all {B c0 c1 k0 k1 : Nat} {L0 L1 : List ByteArray} (w : World) (h : Box w B c0 c1 k0 k1 (strs L0) (strs L1)) (z0 : L0.length ≤ k0) (z1 : L1.length ≤ k1) (z2 : L0.length ≤ 60) (z3 : L1.length ≤ 60) :
    Calls Try.prog 25 #[.pointer (some ⟨B, 0, none⟩)] w fun e w' => ∃ v, e = .returned v ∧ w'.ownsRow w.heap.size 9 1 v (L0.length + L1.length) (strs (L0 ++ L1)) ∧ Box w' B c0 c1 k0 k1 (strs L0) (strs L1) ∧ Upd (fun k => k = c0 ∨ k = c1) w w' := by
  have i0 : ∀ w, (Instr.index 73 (.agg #[.chan (some c0), .chan (some c1)]) (.int .i64 0)).run Try.prog w = .ok (.chan (some c0)) w := fun _ => by kernel_rfl
  have i1 : ∀ w, (Instr.index 73 (.agg #[.chan (some c0), .chan (some c1)]) (.int .i64 1)).run Try.prog w = .ok (.chan (some c1)) w := fun _ => by kernel_rfl
  obtain ⟨ti, hi, hz0, hz1, hz2⟩ := info_parts info9
  have HI := Lib.hid (And.intro hi (And.intro hz0 (And.intro hz1 hz2))); clear hi hz0 hz1 hz2
  have h0 := h.p0
  have h1 := h.p1
  have HB := Lib.hid h; clear h
  go_enter Try.func25, Try.ntmps25
  go_wp2_with fail
  clear h0 h1
  refine wp_loop_rounds 3 ?_
  rw [rounds_succ]
  obtain ⟨s0, r0, hc⟩ := HB.out.a
  have hlen := fun ty => run_len_chan (P := Try.prog) (w := w) 72 ty Try.underlying72 hc
  have hls : ((strs L0).length : Int) = (L0.length : Int) := by rw [strs_len]
  clear hc
  go_wp2_with fail
  clear hlen hls
  go_loopw [3, 6, 7, 17] (fun out _ _ i wr => ∃ (j : Nat) (v : Value), j ≤ L0.length ∧ i = .int .i64 j ∧ v = out ∧ Box wr B c0 c1 k0 k1 (strs (L0.drop j ++ L0.take j)) (strs L1) ∧ wr.ownsRow w.heap.size 9 1 v (j) (strs (L0.take j)) ∧ Upd (fun k => k = c0 ∨ k = c1) w wr) (fun _ _ _ i _ => L0.length - (intOf i).toNat)
  case atStart => exact ⟨0, _, Nat.zero_le _, rfl, rfl, by simpa using HB.out, by simpa [strs] using World.ownsRow_nil w w.heap.size 9 1, Upd.refl _ _⟩
  case round =>
    obtain ⟨j, v, hj, rfl, rfl, hb, ho, hu⟩ := hrel
    rename_i wr
    by_cases hjl : j < L0.length
    · have hts := turn_step L0 j hjl
      have htl := turn_len L0 (j + 1) hjl
      have htk : strs (L0.take (j + 1)) = strs (L0.take j) ++ [.string L0[j]] := by rw [List.take_succ_eq_append_getElem hjl, strs_app _ [L0[j]]]; rfl
      generalize L0[j] = X at *
      rw [hts.1] at hb
      have HT := Lib.hid hts.2
      have HTL := Lib.hid htl
      have HTK := Lib.hid htk
      have HBR := Lib.hid hb
      have HOR := Lib.hid ho
      have HUR := Lib.hid hu
      clear hts htl htk hb ho hu
      go_wp2_with fail
      refine (s_take_some c0 k0 X _ _ HBR.out.a).mono ?_
      rintro e w2 ⟨rfl, hl2, hu2⟩
      have HB2 := Lib.hid (HBR.out.setA hu2 hl2)
      have HO2 := Lib.hid (owns_upd2 HOR.out hu2 (fun g hg e => by have := (HOR.out.lt g hg).1; have e : g = c0 := e; have := HB.out.a.lt; omega))
      have HU2 := Lib.hid (HUR.out.trans (hu2.mono fun k _ hk => Or.inl hk))
      have hz2 := HU2.out.size
      clear hl2 hu2
      go_upto_region 9 with (at_builtin; refine wpList_append_own2 _ rfl (.tmp 24) (.tmp 26) 34 rfl w.heap.size 9 ti (.string ⟨#[]⟩) 1 16 Try.underlying34 HI.out.1 HI.out.2.1 HI.out.2.2.1 HI.out.2.2.2 rfl (by decide) v (j) (strs (L0.take j)) rfl (HO2.out.alloc _) ⟨w2.heap.size, 0, none⟩ 1 1 [.string X] rfl rfl ?c1 ?c2 ?c3 ?c4 ?c5 ?_)
      case c1 => exact (cell_one_new _ _ _)
      case c2 => exact str_one _
      case c3 => unfold maxLen; omega
      case c4 => omega
      case c5 => simp; omega
      intro v' w3 ho3 hg3 _
      have HO3 := Lib.hid (show w3.ownsRow w.heap.size 9 1 v' (j + 1) (strs (L0.take (j + 1))) from by rw [HTK.out]; exact ho3)
      have hg3 := upd_grown hg3
      have hlow := HOR.out.lt
      have hU23 : Upd (fun k => w.heap.size ≤ k) w2 w3 := (upd_alloc _ w2 _).trans (hg3.mono (fun k _ hk => (hlow k hk.symm).1))
      have hlt0 := HB.out.a.lt
      have hlt1 := HB.out.b.lt
      have hltB : B < w.heap.size := cell_lt HB.out.p0
      have HB3 := Lib.hid (HB2.out.keep hU23 (by omega) (by omega) (by omega))
      have HU3 := Lib.hid (HU2.out.above hU23)
      clear hg3 ho3 hU23 hlow
      go_upto_region 9 with (fail)
      obtain ⟨s9, r9, hc9⟩ := HB3.out.a
      have HC9 := Lib.hid hc9; clear hc9
      refine wp_region_steps 3 (fun b k cs => Steps.head (step_val (i := 0) (v := .chan (some c0)) (w' := w3) rfl rfl (by simp [go_sem, execOp, Act.eval])) (Steps.head (step_val (i := 1) (v := .string X) (w' := w3) rfl rfl (by simp [go_sem, execOp, Act.eval, Act.put])) (Steps.one (step_put (i := 2) (c := c0) (v := .string X) (z := .tuple #[]) rfl rfl (by simp [go_sem, execOp, scase, Act.eval, Act.put]) HC9.out (by simp only [List.size_toArray, strs_len]; have := HTL.out; rw [List.length_append, List.length_take] at this; rw [List.length_append, List.length_take]; omega))))) ?_
      have hpush : (strs (L0.drop (j + 1) ++ L0.take j)).toArray.push (.string X) = (strs (L0.drop (j + 1) ++ L0.take (j + 1))).toArray := by rw [← HT.out]; simp
      rw [hpush]
      have hu9 := upd_setChan w3 c0 k0 (strs (L0.drop (j + 1) ++ L0.take (j + 1))).toArray false (s9 + 1) r9
      have hb9 := heap_setChan w3 c0 k0 (strs (L0.drop (j + 1) ++ L0.take (j + 1))).toArray false (s9 + 1) r9 false (heap_lt HC9.out)
      generalize World.setChan w3 c0 k0 (strs (L0.drop (j + 1) ++ L0.take (j + 1))).toArray false (s9 + 1) r9 false = w9 at *
      have HB9 := Lib.hid (HB3.out.setA hu9 ⟨_, _, hb9⟩)
      have HU9 := Lib.hid (HU3.out.trans (hu9.mono fun k _ hk => Or.inl hk))
      have HO9 := Lib.hid (owns_upd2 HO3.out hu9 (fun g hg e => by have := (HO3.out.lt g hg).1; have e : g = c0 := e; omega))
      clear hpush hu9 hb9 hlt0 hlt1 hltB
      go_wp2_with fail
      go_roundw
      case rel => exact ⟨j + 1, _, by omega, by go_num, rfl, HB9.out, HO9.out, HU9.out⟩
      case measure => simp [intOf]; omega
    · have hjl9 : j = L0.length := by omega
      subst hjl9
      rw [List.drop_length, List.nil_append, List.take_length] at hb
      rw [List.take_length] at ho
      have HBA := Lib.hid hb
      have HOA := Lib.hid ho
      have HUA := Lib.hid hu
      clear hb ho hu
      go_wp2_with fail
      obtain ⟨wA, rfl⟩ : ∃ wA : World, wA = wr := ⟨_, rfl⟩
      rw [rounds_succ]
      obtain ⟨s1, r1, hc⟩ := HBA.out.b
      have hlen := fun ty => run_len_chan (P := Try.prog) (w := wA) 72 ty Try.underlying72 hc
      have hls : ((strs L1).length : Int) = (L1.length : Int) := by rw [strs_len]
      clear hc
      go_wp2_with fail
      clear hlen hls
      go_loopw [3, 6, 7, 17] (fun out _ _ i wr => ∃ (j : Nat) (v : Value), j ≤ L1.length ∧ i = .int .i64 j ∧ v = out ∧ Box wr B c0 c1 k0 k1 (strs L0) (strs (L1.drop j ++ L1.take j)) ∧ wr.ownsRow w.heap.size 9 1 v (L0.length + j) (strs (L0 ++ L1.take j)) ∧ Upd (fun k => k = c0 ∨ k = c1) w wr) (fun _ _ _ i _ => L1.length - (intOf i).toNat)
      case atStart => exact ⟨0, _, Nat.zero_le _, rfl, rfl, by simpa using HBA.out, by simpa using HOA.out, HUA.out⟩
      case round =>
        obtain ⟨j, v, hj, rfl, rfl, hb, ho, hu⟩ := hrel
        rename_i wr
        by_cases hjl : j < L1.length
        · have hts := turn_step L1 j hjl
          have htl := turn_len L1 (j + 1) hjl
          have htk : strs (L0 ++ L1.take (j + 1)) = strs (L0 ++ L1.take j) ++ [.string L1[j]] := by rw [List.take_succ_eq_append_getElem hjl, ← List.append_assoc, strs_app _ [L1[j]]]; rfl
          generalize L1[j] = X at *
          rw [hts.1] at hb
          have HT := Lib.hid hts.2
          have HTL := Lib.hid htl
          have HTK := Lib.hid htk
          have HBR := Lib.hid hb
          have HOR := Lib.hid ho
          have HUR := Lib.hid hu
          clear hts htl htk hb ho hu
          go_wp2_with fail
          refine (s_take_some c1 k1 X _ _ HBR.out.b).mono ?_
          rintro e w2 ⟨rfl, hl2, hu2⟩
          have HB2 := Lib.hid (HBR.out.setB hu2 hl2)
          have HO2 := Lib.hid (owns_upd2 HOR.out hu2 (fun g hg e => by have := (HOR.out.lt g hg).1; have e : g = c1 := e; have := HB.out.b.lt; omega))
          have HU2 := Lib.hid (HUR.out.trans (hu2.mono fun k _ hk => Or.inr hk))
          have hz2 := HU2.out.size
          clear hl2 hu2
          go_upto_region 9 with (at_builtin; refine wpList_append_own2 _ rfl (.tmp 24) (.tmp 26) 34 rfl w.heap.size 9 ti (.string ⟨#[]⟩) 1 16 Try.underlying34 HI.out.1 HI.out.2.1 HI.out.2.2.1 HI.out.2.2.2 rfl (by decide) v (L0.length + j) (strs (L0 ++ L1.take j)) rfl (HO2.out.alloc _) ⟨w2.heap.size, 0, none⟩ 1 1 [.string X] rfl rfl ?c1 ?c2 ?c3 ?c4 ?c5 ?_)
          case c1 => exact (cell_one_new _ _ _)
          case c2 => exact str_one _
          case c3 => unfold maxLen; omega
          case c4 => omega
          case c5 => simp; omega
          intro v' w3 ho3 hg3 _
          have HO3 := Lib.hid (show w3.ownsRow w.heap.size 9 1 v' (L0.length + j + 1) (strs (L0 ++ L1.take (j + 1))) from by rw [HTK.out]; exact ho3)
          have hg3 := upd_grown hg3
          have hlow := HOR.out.lt
          have hU23 : Upd (fun k => w.heap.size ≤ k) w2 w3 := (upd_alloc _ w2 _).trans (hg3.mono (fun k _ hk => (hlow k hk.symm).1))
          have hlt0 := HB.out.a.lt
          have hlt1 := HB.out.b.lt
          have hltB : B < w.heap.size := cell_lt HB.out.p0
          have HB3 := Lib.hid (HB2.out.keep hU23 (by omega) (by omega) (by omega))
          have HU3 := Lib.hid (HU2.out.above hU23)
          clear hg3 ho3 hU23 hlow
          go_upto_region 9 with (fail)
          obtain ⟨s9, r9, hc9⟩ := HB3.out.b
          have HC9 := Lib.hid hc9; clear hc9
          refine wp_region_steps 3 (fun b k cs => Steps.head (step_val (i := 0) (v := .chan (some c1)) (w' := w3) rfl rfl (by simp [go_sem, execOp, Act.eval])) (Steps.head (step_val (i := 1) (v := .string X) (w' := w3) rfl rfl (by simp [go_sem, execOp, Act.eval, Act.put])) (Steps.one (step_put (i := 2) (c := c1) (v := .string X) (z := .tuple #[]) rfl rfl (by simp [go_sem, execOp, scase, Act.eval, Act.put]) HC9.out (by simp only [List.size_toArray, strs_len]; have := HTL.out; rw [List.length_append, List.length_take] at this; rw [List.length_append, List.length_take]; omega))))) ?_
          have hpush : (strs (L1.drop (j + 1) ++ L1.take j)).toArray.push (.string X) = (strs (L1.drop (j + 1) ++ L1.take (j + 1))).toArray := by rw [← HT.out]; simp
          rw [hpush]
          have hu9 := upd_setChan w3 c1 k1 (strs (L1.drop (j + 1) ++ L1.take (j + 1))).toArray false (s9 + 1) r9
          have hb9 := heap_setChan w3 c1 k1 (strs (L1.drop (j + 1) ++ L1.take (j + 1))).toArray false (s9 + 1) r9 false (heap_lt HC9.out)
          generalize World.setChan w3 c1 k1 (strs (L1.drop (j + 1) ++ L1.take (j + 1))).toArray false (s9 + 1) r9 false = w9 at *
          have HB9 := Lib.hid (HB3.out.setB hu9 ⟨_, _, hb9⟩)
          have HU9 := Lib.hid (HU3.out.trans (hu9.mono fun k _ hk => Or.inr hk))
          have HO9 := Lib.hid (owns_upd2 HO3.out hu9 (fun g hg e => by have := (HO3.out.lt g hg).1; have e : g = c1 := e; omega))
          clear hpush hu9 hb9 hlt0 hlt1 hltB
          go_wp2_with fail
          go_roundw
          case rel => exact ⟨j + 1, _, by omega, by go_num, rfl, HB9.out, HO9.out, HU9.out⟩
          case measure => simp [intOf]; omega
        · have hjl9 : j = L1.length := by omega
          subst hjl9
          rw [List.drop_length, List.nil_append, List.take_length] at hb
          rw [List.take_length] at ho
          go_wp2_with fail
          rw [rounds_succ]
          go_wp2_with fail
          go_ret
          exact ⟨_, rfl, ho, hb, hu⟩
end Go.Proofs.Ytohjikijgcpnnaa
