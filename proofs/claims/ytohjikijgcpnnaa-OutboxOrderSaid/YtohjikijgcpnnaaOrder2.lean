/-
  OutboxOrder: the walk of the law.
-/
import Derived.Test.YtohjikijgcpnnaaSlices
namespace Go.Proofs.Ytohjikijgcpnnaa
open Go.RowKit Go.Conc

set_option maxHeartbeats 1000000 in
theorem order_none (a0 : Option Addr) (len cap : Nat) (w : World) (h : 16 < len) :
    Calls Try.prog 3 #[.slice a0 len cap] w fun e w' => e = .returned (.bool true) ∧ Below w.heap.size w w' := by
  go_enter Try.func3, Try.ntmps3
  go_wp2_with fail
  refine (awake_any _).mono ?_
  rintro e w1 ⟨rfl, hb1⟩
  go_wp2_with fail
  refine (awake_any _).mono ?_
  rintro e w2 ⟨rfl, hb2⟩
  go_wp2_with fail
  go_ret
  exact ⟨rfl, chain hb1 hb2⟩

/-- Where the loops stand. -/
structure Inv (w0 w : World) (base B c0 c1 W : Nat) (U V : List Int) (p0 p1 : Option Addr) (q0 q1 : Nat) : Prop where
  box : Box w B c0 c1 8 8 (ints U) (ints V)
  sl : Sl w base W U V p0 p1 q0 q1
  u8 : U.length ≤ 8
  v8 : V.length ≤ 8
  below : Below w0.heap.size w0 w
  lo : w0.heap.size ≤ B ∧ w0.heap.size ≤ c0 ∧ w0.heap.size ≤ c1 ∧ w0.heap.size ≤ W
  hi : B < base ∧ c0 < base ∧ c1 < base
  nW : W ≠ B ∧ W ≠ c0 ∧ W ≠ c1

theorem info3 : (Try.prog.info? 3).map (fun i => (i.zero, i.size, i.bytes)) = some (some (.int .i64 0), 1, 8) := by kernel_rfl

theorem inv_start (w0 w2 : World) (B c0 c1 : Nat) (hb : Box w2 B c0 c1 8 8 [] []) (h2 : Below w0.heap.size w0 w2) (z0 : w0.heap.size ≤ B) (z1 : w0.heap.size ≤ c0) (z2 : w0.heap.size ≤ c1) :
    Inv w0 (w2.alloc (.cells #[.slice none 0 0, .slice none 0 0] 27)) (w2.heap.size + 1) B c0 c1 w2.heap.size [] [] none none 0 0 := by
  have l0 := hb.a.lt
  have l1 := hb.b.lt
  have lB := cell_lt hb.p0
  have hsz := h2.size
  refine ⟨hb.keep (upd_alloc (fun _ => False) _ _) (fun h => h) (fun h => h) (fun h => h), sl_start w2, by simp, by simp, ?_, ⟨z0, z1, z2, hsz⟩, ⟨?_, by omega, by omega⟩, ⟨?_, by omega, by omega⟩⟩
  · exact h2.alloc hsz _
  · have : B < w2.heap.size := lB
    omega
  · have : B < w2.heap.size := lB
    omega
/-- After a Put: the outbox has more, the slices have not yet. -/
theorem inv_put {w0 w w' : World} {base B c0 c1 W : Nat} {U V : List Int} {p0 p1 : Option Addr} {q0 q1 : Nat} (h : Inv w0 w base B c0 c1 W U V p0 p1 q0 q1) {c : Nat} (hu : Upd (· = c) w w') (hc : c = c0 ∨ c = c1) :
    Sl w' base W U V p0 p1 q0 q1 ∧ Below w0.heap.size w0 w' := by
  have hl := h.lo
  have hh := h.hi
  have hn := h.nW
  refine ⟨h.sl.keep hu fun k hk => ?_, ?_⟩
  · have hk : k = c := hk
    rcases hc with rfl | rfl
    · exact ⟨by omega, by omega⟩
    · exact ⟨by omega, by omega⟩
  · refine h.below.trans (hu.below (Nat.le_trans h.below.size (Nat.le_refl _)) fun k hk => ?_)
    have hk : k = c := hk
    rcases hc with rfl | rfl <;> omega

theorem inv_back {w0 wr w4 w6 : World} {base B c0 c1 W : Nat} {U V U' V' : List Int} {p0 p1 p0' p1' : Option Addr} {q0 q1 q0' q1' : Nat} (h : Inv w0 wr base B c0 c1 W U V p0 p1 q0 q1) (hb : Box w4 B c0 c1 8 8 (ints U') (ints V'))
    (hs : Sl w6 base W U' V' p0' p1' q0' q1') (hu : Upd (fun k => base ≤ k ∨ k = W) w4 w6) (hl : Below w0.heap.size w0 w4) (hu8 : U'.length ≤ 8) (hv8 : V'.length ≤ 8) : Inv w0 w6 base B c0 c1 W U' V' p0' p1' q0' q1' := by
  have hlo := h.lo
  have hh := h.hi
  have hn := h.nW
  refine ⟨hb.keep hu (fun e => by rcases e with e | e <;> omega) (fun e => by rcases e with e | e <;> omega) (fun e => by rcases e with e | e <;> omega), hs, hu8, hv8, ?_, h.lo, h.hi, h.nW⟩
  have := h.sl.bW
  exact hl.trans (hu.below hl.size fun k hk => by rcases hk with hk | hk <;> omega)

theorem ints_app (U V : List Int) : ints (U ++ V) = ints U ++ ints V := by simp [ints]
theorem inv_keep {S : Nat → Prop} {w0 w w' : World} {base B c0 c1 W : Nat} {U V : List Int} {p0 p1 : Option Addr} {q0 q1 : Nat} (h : Inv w0 w base B c0 c1 W U V p0 p1 q0 q1) (hu : Upd S w w') (hs : ∀ k, S k → w.heap.size ≤ k) : Inv w0 w' base B c0 c1 W U V p0 p1 q0 q1 := by
  have l0 := h.box.a.lt
  have l1 := h.box.b.lt
  have lB : B < w.heap.size := cell_lt h.box.p0
  have hS : ∀ k, k < w.heap.size → ¬ S k := fun k hk hS => by have := hs k hS; omega
  have hn : Upd (fun _ => False) w w' := hu.mono fun k hk hS' => hS k hk hS'
  exact ⟨h.box.keep hu (hS _ lB) (hS _ l0) (hS _ l1), h.sl.keep hn (fun _ f => f.elim), h.u8, h.v8, h.below.trans (hu.below h.below.size fun k hk => Nat.le_trans h.below.size (hs k hk)), h.lo, h.hi, h.nW⟩
theorem inv_grown0 {w0 w w' : World} {base B c0 c1 W : Nat} {U V : List Int} {p0 p1 : Option Addr} {q0 q1 : Nat} (h : Inv w0 w base B c0 c1 W U V p0 p1 q0 q1) (hg : w.grownBy w' (Value.slice none 0 0).ownBlock) :
    w'.cell? ⟨W, 1, none⟩ = some (.slice p1 V.length q1) ∧ Hid (Inv w0 w' base B c0 c1 W U V p0 p1 q0 q1) := by
  have hi := inv_keep h (upd_grown hg) (fun k hk => by simp [Value.ownBlock] at hk)
  exact ⟨hi.sl.s1, Lib.hid hi⟩
theorem fin_grown {w0 wr w w' : World} {base B c0 c1 W : Nat} {U V : List Int} {p0 p1 p0' p1' : Option Addr} {q0 q1 q0' q1' n : Nat} {v : Value} {xs : List Value} (hr : Inv w0 wr base B c0 c1 W U V p0 p1 q0 q1) (h : Inv w0 w base B c0 c1 W U V p0' p1' q0' q1')
    (hA : w.ownsRow wr.heap.size 3 1 v n xs) (hg : w.grownBy w' v.ownBlock) : Box w' B c0 c1 8 8 (ints U) (ints V) ∧ Below w0.heap.size w0 w' := by
  have l0 := hr.box.a.lt
  have l1 := hr.box.b.lt
  have lB : B < wr.heap.size := cell_lt hr.box.p0
  have hu := upd_grown hg
  have hS : ∀ k, some k = v.ownBlock → wr.heap.size ≤ k := fun k hk => (hA.lt k hk.symm).1
  exact ⟨h.box.keep hu (fun e => by have := hS _ e; omega) (fun e => by have := hS _ e; omega) (fun e => by have := hS _ e; omega), h.below.trans (hu.below h.below.size fun k hk => Nat.le_trans hr.below.size (hS k hk))⟩

theorem take_u (U V : List Int) (j : Nat) (h : j < U.length) : ints (U.drop j) = .int .i64 ((U ++ V)[j]'(by rw [List.length_append]; omega)) :: ints (U.drop (j + 1)) ∧ ints (V.drop (j - U.length)) = ints (V.drop (j + 1 - U.length)) := by
  constructor
  · rw [List.drop_eq_getElem_cons h, List.getElem_append_left h]
    rfl
  · rw [show j - U.length = 0 by omega, show j + 1 - U.length = 0 by omega]
theorem take_v (U V : List Int) (j : Nat) (h : ¬ j < U.length) (h2 : j < U.length + V.length) : ints (U.drop j) = [] ∧ ints (V.drop (j - U.length)) = .int .i64 ((U ++ V)[j]'(by rw [List.length_append]; omega)) :: ints (V.drop (j + 1 - U.length)) ∧ ints (U.drop (j + 1)) = [] := by
  have e1 : U.drop j = [] := List.drop_eq_nil_of_le (by omega)
  have e2 : U.drop (j + 1) = [] := List.drop_eq_nil_of_le (by omega)
  refine ⟨by rw [e1]; rfl, ?_, by rw [e2]; rfl⟩
  rw [List.drop_eq_getElem_cons (show j - U.length < V.length by omega), List.getElem_append_right (by omega), show j + 1 - U.length = j - U.length + 1 by omega]
  rfl

set_option maxRecDepth 100000 in
set_option maxHeartbeats 2000000 in
theorem order_some (a0 : Option Addr) (len cap : Nat) (w : World) (h : len ≤ 16) (hcell : ∀ j, j < len → ∃ b off t, a0 = some ⟨b, off, none⟩ ∧ w.cell? ⟨b, off + j, none⟩ = some (.bool t)) :
    Calls Try.prog 3 #[.slice a0 len cap] w fun e w' => e = .returned (.bool true) ∧ Below w.heap.size w w' := by
  have HC := Lib.hid hcell; clear hcell
  obtain ⟨i0, hi, hz0, hz1, hz2⟩ := info_parts info3
  have HI := Lib.hid (And.intro hi (And.intro hz0 (And.intro hz1 hz2))); clear hi hz0 hz1 hz2
  go_enter Try.func3, Try.ntmps3
  go_wp2_with fail
  refine (awake_any _).mono ?_
  rintro e w1 ⟨rfl, hb1⟩
  have HB1 := Lib.hid hb1; clear hb1
  go_wp2_with fail
  refine (i_new 8 8 _).mono ?_
  rintro e w2 ⟨B, c0, c1, rfl, hb2, hbel2, z0, z1, z2⟩
  rw [show rm 8 = 8 from rfl] at hb2
  have hI : Hid (Inv w (w2.alloc (.cells #[.slice none 0 0, .slice none 0 0] 27)) (w2.heap.size + 1) B c0 c1 w2.heap.size [] [] none none 0 0) :=
    Lib.hid (inv_start w w2 B c0 c1 hb2 (chain HB1.out hbel2) (by have := HB1.out.size; omega) (by have := HB1.out.size; omega) (by have := HB1.out.size; omega))
  clear z0 z1 z2 hb2 hbel2 HB1
  go_wp2_with fail
  generalize hW : w2.heap.size = W at *
  generalize World.alloc w2 (.cells #[.slice none 0 0, .slice none 0 0] 27) = w3 at *
  generalize W + 1 = base at *
  clear hW
  go_loopw [5, 6, 7] (fun i _ _ wr => ∃ (k : Nat) (U V : List Int) (p0 p1 : Option Addr) (q0 q1 : Nat), k ≤ len ∧ i = .int .i64 k ∧ Inv w wr base B c0 c1 W U V p0 p1 q0 q1) (fun i _ _ _ => len - (intOf i).toNat)
  case atStart => exact ⟨0, [], [], none, none, 0, 0, Nat.zero_le _, rfl, hI.out⟩
  case round =>
    obtain ⟨k, U, V, p0, p1, q0, q1, hk, rfl, hinv⟩ := hrel
    by_cases hlt : k < len
    · obtain ⟨b, off, t, rfl, hcb⟩ := HC.out k hlt
      have hbl : b < w.heap.size := cell_lt hcb
      have hcr : wr.cell? ⟨b, off + k, none⟩ = some (.bool t) := by rw [hinv.below.cell (p := ⟨b, off + k, none⟩) hbl]; exact hcb
      have hs0 := hinv.sl.s0
      have hs1 := hinv.sl.s1
      have hu8 := hinv.u8
      have hv8 := hinv.v8
      have HV := Lib.hid hinv; clear hinv
      have HCB := Lib.hid hcb; clear hcb
      cases t
      · by_cases hroom : V.length < 8
        · go_wp2_with fail
          refine (i_put_room_f k _ HV.out.box (by rw [ints_len]; exact hroom)).mono ?_
          rintro e w4 ⟨rfl, hb4, hu4⟩
          have HB4 := Lib.hid hb4; clear hb4
          obtain ⟨hsl, hbel⟩ := inv_put HV.out hu4 (by simp)
          have HS := Lib.hid hsl
          have HL := Lib.hid hbel
          have hs0 := hsl.s0
          have hs1 := hsl.s1
          clear hsl hbel hu4
          have hdec : decide ((V.length : Int) < 8) = true := by simp; omega
          have hbs := HL.out.size
          go_wp2_with (at_builtin; refine wpList_append_own2 _ rfl (.tmp 53) (.tmp 55) 26 rfl base 3 i0 (.int .i64 0) 1 8 Try.underlying26 HI.out.1 HI.out.2.1 HI.out.2.2.1 HI.out.2.2.2 rfl (by decide) (.slice p1 V.length q1) V.length (ints V) rfl (HS.out.o1.alloc _) ⟨w4.heap.size, 0, none⟩ 1 1 [.int .i64 k] rfl rfl ?c1 ?c2 ?c3 ?c4 ?c5 ?_)
          case c1 => exact (cell_one_new _ _ _)
          case c2 => exact int_one _
          case c3 => unfold maxLen; omega
          case c4 => omega
          case c5 => have := HS.out.sz; simp; omega
          intro v' w5 ho5 hg5 hv5
          obtain ⟨g, q, hv, hcw, hfw, hsl6, hup6⟩ := HS.out.push1 (k : Int) _ ho5 hg5 hv5
          rw [hv] at hsl6 hup6 ⊢
          clear hdec hs0 hs1
          have HS6 := Lib.hid hsl6
          have HU6 := Lib.hid hup6
          clear hsl6 hup6 ho5 hg5 hv5 hv
          go_wp2_with fail
          go_roundw
          case rel => exact ⟨k + 1, U, V ++ [(k : Int)], p0, some ⟨g, 0, none⟩, q0, q, by omega, by go_num, inv_back HV.out (by rw [ints_snoc]; exact HB4.out) HS6.out HU6.out HL.out (by first | omega | (rw [List.length_append, List.length_singleton]; omega)) (by first | omega | (rw [List.length_append, List.length_singleton]; omega))⟩
          case measure => simp [intOf]; omega
        · go_wp2_with fail
          refine (i_put_full_f k _ HV.out.box (by rw [ints_len]; omega)).mono ?_
          rintro e w4 ⟨rfl, rfl⟩
          have hdec : decide ((V.length : Int) < 8) = false := by simp; omega
          go_wp2_with fail
          go_roundw
          case rel => exact ⟨k + 1, U, V, p0, p1, q0, q1, by omega, by go_num, HV.out⟩
          case measure => simp [intOf]; omega
      · by_cases hroom : U.length < 8
        · go_wp2_with fail
          refine (i_put_room_t k _ HV.out.box (by rw [ints_len]; exact hroom)).mono ?_
          rintro e w4 ⟨rfl, hb4, hu4⟩
          have HB4 := Lib.hid hb4; clear hb4
          obtain ⟨hsl, hbel⟩ := inv_put HV.out hu4 (by simp)
          have HS := Lib.hid hsl
          have HL := Lib.hid hbel
          have hs0 := hsl.s0
          have hs1 := hsl.s1
          clear hsl hbel hu4
          have hdec : decide ((U.length : Int) < 8) = true := by simp; omega
          have hbs := HL.out.size
          go_wp2_with (at_builtin; refine wpList_append_own2 _ rfl (.tmp 53) (.tmp 55) 26 rfl base 3 i0 (.int .i64 0) 1 8 Try.underlying26 HI.out.1 HI.out.2.1 HI.out.2.2.1 HI.out.2.2.2 rfl (by decide) (.slice p0 U.length q0) U.length (ints U) rfl (HS.out.o0.alloc _) ⟨w4.heap.size, 0, none⟩ 1 1 [.int .i64 k] rfl rfl ?c1 ?c2 ?c3 ?c4 ?c5 ?_)
          case c1 => exact (cell_one_new _ _ _)
          case c2 => exact int_one _
          case c3 => unfold maxLen; omega
          case c4 => omega
          case c5 => have := HS.out.sz; simp; omega
          intro v' w5 ho5 hg5 hv5
          obtain ⟨g, q, hv, hcw, hfw, hsl6, hup6⟩ := HS.out.push0 (k : Int) _ ho5 hg5 hv5
          rw [hv] at hsl6 hup6 ⊢
          clear hdec hs0 hs1
          have HS6 := Lib.hid hsl6
          have HU6 := Lib.hid hup6
          clear hsl6 hup6 ho5 hg5 hv5 hv
          go_wp2_with fail
          go_roundw
          case rel => exact ⟨k + 1, U ++ [(k : Int)], V, some ⟨g, 0, none⟩, p1, q, q1, by omega, by go_num, inv_back HV.out (by rw [ints_snoc]; exact HB4.out) HS6.out HU6.out HL.out (by first | omega | (rw [List.length_append, List.length_singleton]; omega)) (by first | omega | (rw [List.length_append, List.length_singleton]; omega))⟩
          case measure => simp [intOf]; omega
        · go_wp2_with fail
          refine (i_put_full_t k _ HV.out.box (by rw [ints_len]; omega)).mono ?_
          rintro e w4 ⟨rfl, rfl⟩
          have hdec : decide ((U.length : Int) < 8) = false := by simp; omega
          go_wp2_with fail
          go_roundw
          case rel => exact ⟨k + 1, U, V, p0, p1, q0, q1, by omega, by go_num, HV.out⟩
          case measure => simp [intOf]; omega
    · have hs0 := hinv.sl.s0
      have hs1 := hinv.sl.s1
      have hu8 := hinv.u8
      have hv8 := hinv.v8
      have HV := Lib.hid hinv; clear hinv
      go_wp2_with (at_builtin; refine wpList_append_src _ rfl (.tmp 58) (.tmp 60) 26 rfl wr.heap.size base 3 i0 (.int .i64 0) 1 8 Try.underlying26 HI.out.1 HI.out.2.1 HI.out.2.2.1 HI.out.2.2.2 rfl (by decide) (.slice none 0 0) 0 [] rfl (World.ownsRow_nil _ _ _ _) (.slice p0 U.length q0) U.length (ints U) rfl HV.out.sl.o0 (ints_one U) ?c3 ?c4 ?c5 ?_)
      case c3 => unfold maxLen; omega
      case c4 => omega
      case c5 => exact Nat.le_refl _
      intro v4 w4 ho4 hg4
      try rw [List.nil_append] at ho4
      try rw [Nat.zero_add] at ho4
      obtain ⟨hs4, HV4⟩ := inv_grown0 HV.out hg4
      have HO4 := Lib.hid ho4
      have hz4 := hg4.size
      clear ho4 hg4 hs0 hs1
      have hs1 := hs4
      clear hs4
      go_wp2_with (at_builtin; refine wpList_append_src _ rfl (.tmp 62) (.tmp 64) 26 rfl wr.heap.size base 3 i0 (.int .i64 0) 1 8 Try.underlying26 HI.out.1 HI.out.2.1 HI.out.2.2.1 HI.out.2.2.2 rfl (by decide) v4 U.length (ints U) rfl HO4.out (.slice p1 V.length q1) V.length (ints V) rfl HV4.out.sl.o1 (ints_one V) ?c3 ?c4 ?c5 ?_)
      case c3 => unfold maxLen; omega
      case c4 => omega
      case c5 => exact hz4
      intro v5 w5 ho5 hg5
      obtain ⟨hb5, hl5⟩ := fin_grown HV.out HV4.out HO4.out hg5
      have HB5 := Lib.hid hb5
      have HL5 := Lib.hid hl5
      rw [← ints_app] at ho5
      obtain ⟨pA, qA, hv5, hcA⟩ := owns_form ho5
      have HA := Lib.hid ho5
      have HZ := Lib.hid (Nat.le_trans hz4 hg5.size)
      subst hv5
      have HCA := Lib.hid hcA
      have HN := HV.out.lo
      have HNl := Lib.hid HN
      clear ho5 hg5 hs1 hz4 hcA HO4 HV4 hb5 hl5 HN
      obtain ⟨lB, l0, l1⟩ : B < wr.heap.size ∧ c0 < wr.heap.size ∧ c1 < wr.heap.size := ⟨cell_lt HV.out.box.p0, HV.out.box.a.lt, HV.out.box.b.lt⟩
      have HLo := Lib.hid (And.intro lB (And.intro l0 l1))
      clear lB l0 l1
      go_wp2_with fail
      obtain ⟨n, hn⟩ : ∃ n, n = U.length + V.length := ⟨_, rfl⟩
      rw [← hn]
      have HNn := Lib.hid hn
      have hn16 : n ≤ 16 := by omega
      clear hn
      go_loopw [9, 10, 11] (fun i _ _ wx => ∃ j : Nat, j ≤ n ∧ i = .int .i64 j ∧ Box wx B c0 c1 8 8 (ints (U.drop j)) (ints (V.drop (j - U.length))) ∧ Upd (fun k => k = c0 ∨ k = c1) w5 wx) (fun i _ _ _ => n - (intOf i).toNat)
      case atStart => exact ⟨0, Nat.zero_le _, rfl, by simpa using HB5.out, Upd.refl _ _⟩
      case round =>
        obtain ⟨j, hj, rfl, hbj, huj⟩ := hrel
        rename_i wx
        by_cases hjn : j < n
        · have hjx : j < (U ++ V).length := by rw [List.length_append]; have := HNn.out; omega
          obtain ⟨g, rfl, hcg⟩ := HCA.out j hjx
          have hgr := (HA.out.lt g rfl).1
          have hcx := huj.cell hcg (by have := HLo.out; simp; omega)
          generalize hX : (U ++ V)[j] = X at *
          have HX := Lib.hid hX; clear hX
          have HBJ := Lib.hid hbj; clear hbj
          have HUJ := Lib.hid huj; clear huj
          clear hcg
          have hlq : (((U.drop (j + 1)).length + (V.drop (j + 1 - U.length)).length : Nat) : Int) = (n : Int) - 1 - (j : Int) := by
            have := HNn.out
            rw [List.length_drop, List.length_drop]
            omega
          have HLQ := Lib.hid hlq; clear hlq
          by_cases hju : j < U.length
          · have hdr := take_u U V j hju
            rw [HX.out] at hdr
            have hbj := HBJ.out
            rw [hdr.1] at hbj
            have HBJ2 := Lib.hid hbj; clear hbj
            have HDR := Lib.hid hdr.2; clear hdr
            go_wp2_with fail
            refine (i_take_a X _ HBJ2.out).mono ?_
            rintro e w7 ⟨rfl, hb7, hu7⟩
            rw [HDR.out] at hb7
            have HB7 := Lib.hid hb7; clear hb7
            have HU7 := Lib.hid (HUJ.out.trans (hu7.mono fun k _ hk => Or.inl hk))
            have hcx7 := hu7.cell hcx (by have := HLo.out; simp; omega)
            clear hu7 hcx
            go_wp2_with fail
            refine (i_len _ HB7.out (by rw [ints_len, List.length_drop]; omega) (by rw [ints_len, List.length_drop]; omega)).mono ?_
            rintro e w8 ⟨rfl, hu8x⟩
            rw [ints_len, ints_len, HLQ.out]
            go_wp2_with fail
            go_roundw
            case rel => exact ⟨j + 1, by omega, by go_num, HB7.out.keep hu8x (fun h => h) (fun h => h) (fun h => h), HU7.out.trans (hu8x.mono fun k _ f => f.elim)⟩
            case measure => simp [intOf]; omega
          · have hdr := take_v U V j hju (by rw [List.length_append] at hjx; exact hjx)
            rw [HX.out] at hdr
            have hbj := HBJ.out
            rw [hdr.1, hdr.2.1] at hbj
            have HBJ2 := Lib.hid hbj; clear hbj
            have HDR := Lib.hid hdr.2.2; clear hdr
            go_wp2_with fail
            refine (i_take_b X _ HBJ2.out).mono ?_
            rintro e w7 ⟨rfl, hb7, hu7⟩
            rw [← HDR.out] at hb7
            have HB7 := Lib.hid hb7; clear hb7
            have HU7 := Lib.hid (HUJ.out.trans (hu7.mono fun k _ hk => Or.inr hk))
            have hcx7 := hu7.cell hcx (by have := HLo.out; simp; omega)
            clear hu7 hcx
            go_wp2_with fail
            refine (i_len _ HB7.out (by rw [ints_len, List.length_drop]; omega) (by rw [ints_len, List.length_drop]; omega)).mono ?_
            rintro e w8 ⟨rfl, hu8x⟩
            rw [ints_len, ints_len, HLQ.out]
            go_wp2_with fail
            go_roundw
            case rel => exact ⟨j + 1, by omega, by go_num, HB7.out.keep hu8x (fun h => h) (fun h => h) (fun h => h), HU7.out.trans (hu8x.mono fun k _ f => f.elim)⟩
            case measure => simp [intOf]; omega
        · have e1 : U.drop j = [] := List.drop_eq_nil_of_le (by have := HNn.out; omega)
          have e2 : V.drop (j - U.length) = [] := List.drop_eq_nil_of_le (by have := HNn.out; omega)
          rw [e1, e2] at hbj
          have HBJ := Lib.hid hbj; clear hbj e1 e2
          have HUJ := Lib.hid huj; clear huj
          go_wp2_with fail
          refine (i_take_c _ HBJ.out).mono ?_
          rintro e w7 ⟨rfl, rfl⟩
          go_wp2_with fail
          go_ret
          refine ⟨rfl, HL5.out.trans (HUJ.out.below HL5.out.size fun k hk => ?_)⟩
          have := HNl.out
          rcases hk with rfl | rfl <;> omega
end Go.Proofs.Ytohjikijgcpnnaa
