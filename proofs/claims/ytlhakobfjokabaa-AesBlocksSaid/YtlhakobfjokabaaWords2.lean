/-
  The contract of the reference's Words.
-/
import Derived.Test.YtlhakobfjokabaaWdsRegs
namespace Go.Proofs.Ytlhakobfjokabaa
open Go.RowKit

set_option maxHeartbeats 2000000 in
set_option maxRecDepth 100000 in
theorem words_any (n : Nat) (T : Nat → Nat) (key : ByteArray) (w : World) (hn : n = 4 ∨ n = 8) (hk : key.size = 4 * n) (hT : ∀ j, T j < 256) :
    Calls Try.prog 18 #[.agg (ints 256 T), .string key] w fun e w' => ∃ v, e = .returned v ∧
      w'.ownsRow (w.heap.size + 1) 3 1 v (16 * (n + 7)) (ints (16 * (n + 7)) (ex T (byt key) n (4 * (n + 7))).2).toList ∧ Below w.heap.size w w' := by
  obtain ⟨i0, hi, hz0, hz1, hz2⟩ := info_parts info3
  have HI := Lib.hid (And.intro hi (And.intro hz0 (And.intro hz1 hz2))); clear hi hz0 hz1 hz2
  have HS := Lib.hid (WdsR.start w T (byt key))
  have HT := Lib.hid hT; clear hT
  have HN := Lib.hid (And.intro hn hk)
  have hkq : (key.size : Int) / 4 = (n : Int) := by omega
  have hnw : IntKind.i64.wrap (n : Int) = (n : Int) := by rw [IntKind.wrap_i64]; omega
  have hkb : (key.size : Int) ≤ 32 := by omega
  clear hn hk
  go_enter Try.func18, Try.ntmps18
  go_upto_region 3 with (fail)
  generalize World.alloc w _ = w1 at *
  go_wp2_with fail
  go_loopw [6, 7] (fun v i wr => ∃ m : Nat, m ≤ key.size ∧ i = .int .i64 m ∧ WdsR w wr T v m (byt key)) (fun _ i _ => key.size - (intOf i).toNat)
  case atStart => exact ⟨0, by omega, rfl, HS.out⟩
  case round =>
    obtain ⟨m, hm, rfl, hr⟩ := hrel
    have HR := Lib.hid hr
    rename_i wr
    clear HS hr
    by_cases hmk : m < key.size
    · have hm0 : (m : Int) < (key.size : Int) := by omega
      have hB := byt_at key m hmk
      have hbl := byt_lt key m
      have hbw : wrap64 ((key[m].toNat : Nat) : Int) = ((byt key m : Nat) : Int) := by rw [hB]; unfold wrap64; omega
      clear hB hbl
      have HRW := Lib.hid (HR.out.upd (upd_alloc (fun _ => False) wr (.cells #[.int .i64 (byt key m)] 3)) (fun _ _ h => h.elim))
      have HC := Lib.hid (one_cell wr (byt key m) 3)
      go_wp2_with (at_builtin; go_loud (refine wpList_append_own _ rfl _ _ 40 rfl (w.heap.size + 1) 3 i0 (.int .i64 0) 1 8 Try.underlying40 HI.out.1 HI.out.2.1 HI.out.2.2.1 HI.out.2.2.2 rfl (by decide) _ m _ rfl HRW.out.o ⟨wr.heap.size, 0, none⟩ 1 1 [.int .i64 (byt key m)] rfl (by simp) HC.out (ints_list_one _) ?c3 ?c4 ?c5 ?_))
      case c3 => unfold maxLen; omega
      case c4 => omega
      case c5 => exact Nat.succ_le_of_lt HRW.out.t.lt
      intro v' w6 hown' hgrow _
      have HN := Lib.hid (WdsR.next HRW.out hown' (ints_snoc m (byt key) _ rfl) hgrow)
      clear hown' hgrow hbw
      go_wp2_with fail
      go_roundw
      case rel => exact ⟨m + 1, by omega, by go_num, HN.out⟩
      case measure => simp [intOf]; omega
    · have hm9 : m = key.size := by omega
      obtain ⟨hn, hk⟩ := HN.out
      have hs0 : WdsR w wr T u6 (4 * n) (ex T (byt key) n n).2 := by
        have h := HR.out
        rw [hm9, hk] at h
        exact ⟨h.t, by rw [ints_congr fun j hj => (ex_first T (byt key) n n (Nat.le_refl _)).2 j hj]; exact h.o, h.u⟩
      have hp0 : (ex T (byt key) n n).1 = 1 := (ex_first T (byt key) n n (Nat.le_refl _)).1
      have HS := Lib.hid (And.intro hs0 hp0); clear hs0 hp0
      have hn8 : (n : Int) ≤ 8 := by omega
      have hn1 : (1 : Int) ≤ n := by omega
      clear hmk
      go_upto_region 9 with (fail)
      go_loopw [6, 8, 9] (fun v p i wr => ∃ k : Nat, n ≤ k ∧ k ≤ 4 * (n + 7) ∧ i = .int .i64 k ∧ p = .int .i64 (ex T (byt key) n k).1 ∧ WdsR w wr T v (4 * k) (ex T (byt key) n k).2) (fun _ _ i _ => 4 * (n + 7) - (intOf i).toNat)
      case atStart => exact ⟨n, by omega, by omega, rfl, by rw [HS.out.2]; rfl, HS.out.1⟩
      case round =>
        obtain ⟨k, hnk, hk4, rfl, rfl, hr⟩ := hrel
        have HR := Lib.hid hr
        have HLT := Lib.hid (ex_lt T (byt key) n HT.out (byt_lt key) k)
        rename_i wr
        clear hr HS
        by_cases hkk : k < 4 * (n + 7)
        · have hk0 : (k : Int) < 4 * ((n : Int) + 7) := by omega
          obtain ⟨m, rfl⟩ : ∃ m, k = m + 1 := ⟨k - 1, by omega⟩
          have HX := Lib.hid (show ex T (byt key) n (m + 1 + 1) = ((stepW T (ex T (byt key) n (m + 1)).2 (ex T (byt key) n (m + 1)).1 n (m + 1)).1, ext (ex T (byt key) n (m + 1)).2 (m + 1) fun j => (stepW T (ex T (byt key) n (m + 1)).2 (ex T (byt key) n (m + 1)).1 n (m + 1)).2 j ^^^ (ex T (byt key) n (m + 1)).2 (4 * (m + 1 - n) + j)) from by rw [ex, if_neg (by omega)])
          generalize hpe : (ex T (byt key) n (m + 1)).1 = P at *
          generalize hge : (ex T (byt key) n (m + 1)).2 = G at *
          clear hpe hge
          obtain ⟨gb, cap, rfl, hgb, hgl, hgc⟩ := owns_form HR.out.o (by omega)
          have c0 := ints_cell HR.out.o (4 * m) (by omega)
          have c1 := ints_cell HR.out.o (4 * m + 1) (by omega)
          have c2 := ints_cell HR.out.o (4 * m + 2) (by omega)
          have c3 := ints_cell HR.out.o (4 * m + 3) (by omega)
          have HC := Lib.hid (And.intro c0 (And.intro c1 (And.intro c2 c3)))
          clear c0 c1 c2 c3
          have hm60 : (m : Int) ≤ 60 := by omega
          go_upto_region 11 with (fail)
          refine wds11 gb (4 * (m + 1)) cap (4 * m) (4 * m + 1) (4 * m + 2) (4 * m + 3) _ _ _ _ _ wr _ (by omega) (by omega) hgc (by omega) (by omega) (by omega) (by omega) (by omega) HC.out.1 HC.out.2.1 HC.out.2.2.1 HC.out.2.2.2 ?_
          intro y36 y37 y38 y39 y40 y41 y42 y43 y44 y45 y46 y47 y48 y49 y50 y51 y52 y53 y54 y55 y56 y57 y58 y59 y60 X w6 hlo hbx hbel
          have HB := Lib.hid hbx
          have HR6 := Lib.hid (HR.out.upd (upd_of_below (S := fun _ => False) hbel) (fun _ _ h => h.elim))
          have HXX := Lib.hid (show w.heap.size < X ∧ X ≠ gb from ⟨by have := HR.out.t.lt; omega, by omega⟩)
          clear hlo hbx hbel
          obtain ⟨q, hq⟩ : ∃ q, q = (m + 1) % n := ⟨_, rfl⟩
          have hmd1 : ((m : Int) + 1).tmod (n : Int) = (q : Int) := by
            rw [Int.tmod_eq_emod_of_nonneg (by omega), hq]
            rcases hn with rfl | rfl <;> omega
          have hmd2 : ((m : Int) + 1) % (n : Int) = (q : Int) := by
            rw [hq]
            rcases hn with rfl | rfl <;> omega
          have hq8 : (q : Int) < 8 := by
            rw [hq]
            rcases hn with rfl | rfl <;> omega
          obtain ⟨z0, hz0⟩ : ∃ z, ((q : Int) == 0) = z := ⟨_, rfl⟩
          have HST := Lib.hid (stepW_lt T G P n (m + 1) HT.out HLT.out.2 HLT.out.1)
          have hn0 : ¬ (n : Int) = 0 := by omega
          have HQ := Lib.hid (And.intro hq (And.intro hn (And.intro hnk hkk)))
          have HG := Lib.hid (And.intro hgb (And.intro hgl hgc))
          clear hq hn hnk hk4 hkk hgb hgl hk hm hm9 hk0
          rw [show ((m + 1 : Nat) : Int) = (m : Int) + 1 by omega]
          go_upto_if 64 with (fail)
          go_cut [8] (fun s8 wx => s8 = .int .i64 (stepW T G P n (m + 1)).1 ∧ Bli wx X 64 4 (stepW T G P n (m + 1)).2 ∧ WdsR w wx T (.slice (some ⟨gb, 0, none⟩) (4 * (m + 1)) cap) (4 * (m + 1)) G)
          case first =>
            have x0 : w6.cell? ⟨X, 0, none⟩ = some (.int .i64 (G (4 * m))) := HB.out.cell (j := 0) (by omega)
            have x1 : w6.cell? ⟨X, 1, none⟩ = some (.int .i64 (G (4 * m + 1))) := HB.out.cell (j := 1) (by omega)
            have x2 : w6.cell? ⟨X, 2, none⟩ = some (.int .i64 (G (4 * m + 2))) := HB.out.cell (j := 2) (by omega)
            have x3 : w6.cell? ⟨X, 3, none⟩ = some (.int .i64 (G (4 * m + 3))) := HB.out.cell (j := 3) (by omega)
            have t0 := HR6.out.t.cell (HLT.out.2 (4 * m))
            have t1 := HR6.out.t.cell (HLT.out.2 (4 * m + 1))
            have t2 := HR6.out.t.cell (HLT.out.2 (4 * m + 2))
            have t3 := HR6.out.t.cell (HLT.out.2 (4 * m + 3))
            have l0 : (G (4 * m) : Int) < 256 := by have := HLT.out.2 (4 * m); omega
            have l1 : (G (4 * m + 1) : Int) < 256 := by have := HLT.out.2 (4 * m + 1); omega
            have l2 : (G (4 * m + 2) : Int) < 256 := by have := HLT.out.2 (4 * m + 2); omega
            have l3 : (G (4 * m + 3) : Int) < 256 := by have := HLT.out.2 (4 * m + 3); omega
            have HUX := Lib.hid (fun (f : Nat → Nat) (wz : World) (h : WdsR w wz T (.slice (some ⟨gb, 0, none⟩) (4 * (m + 1)) cap) (4 * (m + 1)) G) => h.upd (upd_setRow wz X (ints 4 f)) (fun k _ e => by subst e; exact ⟨HXX.out.1, fun e2 => by simp [Value.ownBlock] at e2; exact HXX.out.2 e2.symm⟩))
            cases z0
            · have hq0 : ¬ q = 0 := by rw [beq_eq_false_iff_ne] at hz0; omega
              have hq1 : ¬ (m + 1) % n = 0 := by rw [← HQ.out.1]; exact hq0
              by_cases h8 : n = 8 ∧ q = 4
              · have HSW := Lib.hid (show stepW T G P n (m + 1) = (P, fun k => T (G (4 * m + k))) from by rw [stepW, if_neg hq1, if_pos (by rw [← HQ.out.1]; exact h8)]; rfl)
                have hb1 : ((n : Int) == 8) = true := by rw [beq_iff_eq]; omega
                have hb2 : ((q : Int) == 4) = true := by rw [beq_iff_eq]; omega
                clear hq0 hq1 h8
                go_upto_region 16 with (fail)
                go_still_tail 17, (by kernel_rfl)
                go_wp2_with (refine wpList_store_row rfl 64 (.tmp 10) (.tmp 110) rfl X (ints 4 (four (T (G (4 * m))) (T (G (4 * m + 1))) (T (G (4 * m + 2))) (T (G (4 * m + 3))))) rfl rfl 64 _ HB.out.drew (sizeI 64 i64s _) (by rw [ints_size, ints_size]) (ints_one _ _) ?_)
                go_meet
                refine ⟨by rw [HSW.out], ?_, HUX.out _ _ (HR6.out.upd (upd_drew (fun _ => False) w6) (fun _ _ h => h.elim))⟩
                rw [HSW.out]
                exact (HB.out.drew.setRow _).congr fun j hj => by rcases (by omega : j = 0 ∨ j = 1 ∨ j = 2 ∨ j = 3) with rfl | rfl | rfl | rfl <;> rfl
              · have HSW := Lib.hid (show stepW T G P n (m + 1) = (P, fun k => G (4 * m + k)) from by rw [stepW, if_neg hq1, if_neg (by rw [← HQ.out.1]; exact h8)]; rfl)
                obtain ⟨z1, hz1⟩ : ∃ z, ((n : Int) == 8) = z := ⟨_, rfl⟩
                cases z1
                · clear hq0 hq1 h8
                  go_wp2_with fail
                  go_meet
                  refine ⟨by rw [HSW.out], ?_, HR6.out⟩
                  rw [HSW.out]
                  exact HB.out.congr fun j hj => by rcases (by omega : j = 0 ∨ j = 1 ∨ j = 2 ∨ j = 3) with rfl | rfl | rfl | rfl <;> rfl
                · have hb2 : ((q : Int) == 4) = false := by rw [beq_eq_false_iff_ne]; rw [beq_iff_eq] at hz1; omega
                  clear hq0 hq1 h8
                  go_wp2_with fail
                  go_meet
                  refine ⟨by rw [HSW.out], ?_, HR6.out⟩
                  rw [HSW.out]
                  exact HB.out.congr fun j hj => by rcases (by omega : j = 0 ∨ j = 1 ∨ j = 2 ∨ j = 3) with rfl | rfl | rfl | rfl <;> rfl
            · have hq0 : q = 0 := by rw [beq_iff_eq] at hz0; omega
              have hq1 : (m + 1) % n = 0 := by rw [← HQ.out.1]; exact hq0
              have HSW := Lib.hid (show stepW T G P n (m + 1) = (mul P 2, fun k => T (G (4 * m + (k + 1) % 4)) ^^^ if k = 0 then P else 0) from by rw [stepW, if_pos hq1]; rfl)
              have hP := HLT.out.1
              have hx : bits .xor .i64 (T (G (4 * m + 1)) : Int) (P : Int) = ((T (G (4 * m + 1)) ^^^ P : Nat) : Int) := xor64 _ _ (by have := HT.out (G (4 * m + 1)); omega) (by omega)
              clear hq0 hq1
              go_upto_region 13 with (fail)
              go_still_tail 19, (by kernel_rfl)
              go_upto_region 14 with (refine wpList_store_row rfl 64 (.tmp 10) (.tmp 83) rfl X (ints 4 (four (T (G (4 * m + 1)) ^^^ P) (T (G (4 * m + 2))) (T (G (4 * m + 3))) (T (G (4 * m))))) rfl rfl 64 _ HB.out.drew (sizeI 64 i64s _) (by rw [ints_size, ints_size]) (ints_one _ _) ?_)
              go_wp2_with fail
              refine (refTimes_any P 2 _ hP (by decide)).mono ?_
              rintro e w9 ⟨rfl, rfl⟩
              go_wp2_with fail
              go_meet
              refine ⟨by rw [HSW.out], ?_, HUX.out _ _ (HR6.out.upd (upd_drew (fun _ => False) w6) (fun _ _ h => h.elim))⟩
              rw [HSW.out]
              exact (HB.out.drew.setRow _).congr fun j hj => by
                rcases (by omega : j = 0 ∨ j = 1 ∨ j = 2 ∨ j = 3) with rfl | rfl | rfl | rfl
                · rfl
                · show _ = _ ^^^ 0; rw [Nat.xor_zero]; rfl
                · show _ = _ ^^^ 0; rw [Nat.xor_zero]; rfl
                · show _ = _ ^^^ 0; rw [Nat.xor_zero]; rfl
          case rest =>
            obtain ⟨rfl, hbk, hr⟩ := hcut
            obtain ⟨d, hd⟩ : ∃ d, d = m + 1 - n := ⟨_, rfl⟩
            rw [← hd] at HX
            have hd0 := HQ.out.2.2.1
            have hd9 := HQ.out.2.1
            generalize stepW T G P n (m + 1) = SW at *
            obtain ⟨P2, H⟩ := SW
            have hd1 : (m : Int) + 1 - (n : Int) = (d : Int) := by omega
            have hd5 : IntKind.i64.wrap (d : Int) = (d : Int) := by rw [IntKind.wrap_i64]; omega
            have HD := Lib.hid (show d < m + 1 from by omega)
            have hd6 : (d : Int) ≤ 60 := by omega
            have HBK := Lib.hid hbk
            have HRR := Lib.hid hr
            have hHl : ∀ j, H j < 256 := HST.out.2
            have HH := Lib.hid hHl
            have hxe : (ints (4 * (m + 1)) G).toList = (ints (4 * (m + 1)) (ext G (m + 1) fun j => H j ^^^ G (4 * d + j))).toList := by
              rw [ints_congr (f := G) (g := ext G (m + 1) fun j => H j ^^^ G (4 * d + j)) fun j hj => by unfold ext; rw [if_neg (by omega)]]
            have HRE := Lib.hid (show WdsR w _ T (.slice (some ⟨gb, 0, none⟩) (4 * (m + 1)) cap) (4 * (m + 1) + 0) (ext G (m + 1) fun j => H j ^^^ G (4 * d + j)) from ⟨hr.t, by have h := hr.o; rw [hxe] at h; exact h, hr.u⟩)
            clear hbk hr hd hd0 hd9 hHl hxe hz0
            go_wp2_with fail
            go_loopw [6, 11] (fun v i wx => ∃ (t g c : Nat), t ≤ 4 ∧ i = .int .i64 t ∧ v = .slice (some ⟨g, 0, none⟩) (4 * (m + 1) + t) c ∧ g ≠ X ∧ Bli wx X 64 4 H ∧ WdsR w wx T v (4 * (m + 1) + t) (ext G (m + 1) fun j => H j ^^^ G (4 * d + j))) (fun _ i _ => 4 - (intOf i).toNat)
            case atStart => exact ⟨0, gb, cap, by omega, rfl, rfl, fun e => HXX.out.2 e.symm, HBK.out, HRE.out⟩
            case round =>
              obtain ⟨t, g, c, ht, rfl, rfl, hgx, hb, hr⟩ := hrel
              have HB9 := Lib.hid hb
              have HR9 := Lib.hid hr
              have HGX := Lib.hid hgx
              by_cases ht4 : t < 4
              · have ht0 : (t : Int) < 4 := by omega
                have hcc := owns_form hr.o (by omega)
                obtain ⟨g', c', he, hg1, hg2, hg3⟩ := hcc
                simp only [Value.slice.injEq, Option.some.injEq, Addr.mk.injEq, true_and, and_true] at he
                obtain ⟨rfl, rfl⟩ := he
                have x1 := hb.cell (j := t) ht4
                have x2 := ints_cell hr.o (4 * d + t) (by have := HD.out; omega)
                have hxe : ext G (m + 1) (fun j => H j ^^^ G (4 * d + j)) (4 * d + t) = G (4 * d + t) := by unfold ext; rw [if_neg (by have := HD.out; omega)]
                rw [hxe] at x2
                have hx : bits .xor .i64 (G (4 * d + t) : Int) (H t : Int) = ((G (4 * d + t) ^^^ H t : Nat) : Int) := xor64 _ _ (by have := HLT.out.2 (4 * d + t); omega) (by have := HH.out t; omega)
                have hdk : 4 * d + t < 4 * (m + 1) + t := by have := HD.out; omega
                have hxn : ext G (m + 1) (fun j => H j ^^^ G (4 * d + j)) (4 * (m + 1) + t) = G (4 * d + t) ^^^ H t := by
                  unfold ext
                  rw [if_pos (by omega), show (4 * (m + 1) + t) % 4 = t by omega, Nat.xor_comm]
                have HXN := Lib.hid hxn
                have hXl := hb.lt
                have hw5 : Upd (fun _ => False) wr (wr.drew.alloc (.cells #[.int .i64 ((G (4 * d + t) ^^^ H t : Nat) : Int)] 3)) := (upd_drew _ wr).trans (upd_alloc _ wr.drew _)
                have HRW := Lib.hid (hr.upd hw5 (fun _ _ h => h.elim))
                have HBW := Lib.hid (hb.keep hw5 (fun h => h))
                have HXL := Lib.hid hXl
                have hn9 : n ≤ 100 := by omega
                have hgc9 : 4 * (m + 1) + t ≤ 1000 := by omega
                have hbs : w.heap.size + 1 ≤ wr.heap.size := Nat.succ_le_of_lt hr.t.lt
                clear hxe hb hr hgx hxn hw5 hXl
                go_upto_region 20 with (fail)
                refine wds20 n g (4 * (m + 1) + t) c d t X (G (4 * d + t)) (H t) (G (4 * d + t) ^^^ H t) (w.heap.size + 1) _ _ wr _ (by omega) hn9 hd1 ht4 hgc9 hdk hg3 hbs hx x2 x1 HR9.out.o ?_
                intro y115 y116 y117 y118 y119 y120 y121 y122 y123 y124 y125 y126 y127 y128 y129 y130 g2 c2 w7 hown hgrow hat
                have HN := Lib.hid (HRW.out.next hown (ints_snoc _ _ _ HXN.out) hgrow)
                have HBN := Lib.hid (HBW.out.keep (S := fun k => some k = some g) ⟨hgrow.os, hgrow.tape, hgrow.output, hgrow.size, hgrow.block⟩ (fun e => by injection e with e; exact HGX.out e.symm))
                have HG2 := Lib.hid (show g2 ≠ X from by
                  rcases hat with rfl | rfl
                  · exact HGX.out
                  · have := HXL.out; omega)
                clear hown hgrow hat hx x1 x2 hbs
                go_wp2_with fail
                go_roundw
                case rel => exact ⟨t + 1, g2, c2, by omega, by go_num, by rw [show 4 * (m + 1) + (t + 1) = 4 * (m + 1) + t + 1 from rfl], HG2.out, HBN.out, HN.out⟩
                case measure => simp [intOf]; omega
              · have ht9 : t = 4 := by omega
                subst ht9
                clear hb hr hgx
                go_wp2_with fail
                go_roundw
                case rel => exact ⟨m + 1 + 1, by have := HQ.out.2.2.1; omega, by have := HQ.out.2.2.2; omega, by go_num, by rw [HX.out], by rw [HX.out]; exact HR9.out⟩
                case measure => simp [intOf]; have := HQ.out.2.2.2; omega
        · have hk9 : k = 4 * (n + 7) := by omega
          have hk0 : ¬ (k : Int) < 4 * ((n : Int) + 7) := by omega
          clear hkk hm hm9 hk hn
          go_wp2_with fail
          go_ret
          refine ⟨_, rfl, ?_, HR.out.u⟩
          have h := HR.out.o
          rw [hk9, show 4 * (4 * (n + 7)) = 16 * (n + 7) by omega] at h
          exact h
end Go.Proofs.Ytlhakobfjokabaa
