/-
  The contract of the reference's Do.
-/
import Derived.Test.YtlhakobfjokabaaRdoReg
namespace Go.Proofs.Ytlhakobfjokabaa
open Go.RowKit

set_option maxHeartbeats 2000000 in
set_option maxRecDepth 100000 in
theorem refDo_any (T W : Nat → Nat) (gb r cap : Nat) (b : ByteArray) (w : World) (hT : ∀ j, T j < 256) (hW : ∀ j, W j < 256) (hb : b.size = 16) (hr1 : 1 ≤ r) (hr2 : r ≤ 50) (hcap : 16 * (r + 1) ≤ cap)
    (hc : ∀ j, j < 16 * (r + 1) → w.cell? ⟨gb, j, none⟩ = some (.int .i64 (W j))) :
    Calls Try.prog 17 #[.agg (ints 256 T), .slice (some ⟨gb, 0, none⟩) (16 * (r + 1)) cap, .string b] w fun e w' => e = .returned (.string (txt (enc T W r (byt b)))) ∧ Below w.heap.size w w' := by
  have HS := Lib.hid (RdoR.start w T)
  have HT := Lib.hid hT; clear hT
  have HW := Lib.hid hW; clear hW
  have HC := Lib.hid hc; clear hc
  have HB := Lib.hid hb
  have hbb : (b.size : Int) = 16 := by omega
  obtain ⟨k, hk⟩ : ∃ k, k = 16 * (r + 1) := ⟨_, rfl⟩
  rw [← hk] at hcap ⊢
  have hkq : (k : Int).tdiv 16 = (r : Int) + 1 := by rw [Int.tdiv_eq_ediv_of_nonneg (by omega)]; omega
  have hkq2 : (k : Int) / 16 = (r : Int) + 1 := by omega
  have hz := zero63
  have HK := Lib.hid hk; clear hk hb
  have hk9 : (k : Int) ≤ 1000 := by have := HK.out; omega
  go_enter Try.func17, Try.ntmps17
  go_upto_region 2 with (fail)
  generalize World.alloc (World.alloc w _) _ = w1 at *
  clear hz
  go_wp2_with fail
  go_loopw [8] (fun i wr => ∃ n : Nat, n ≤ 16 ∧ i = .int .i64 n ∧ RdoR w wr T (upTo (fun j => byt b j ^^^ W j) (fun _ => 0) n)) (fun i _ => 16 - (intOf i).toNat)
  case atStart => exact ⟨0, by omega, rfl, by rw [upTo_zero]; exact HS.out⟩
  case round =>
    obtain ⟨n, hn, rfl, hr⟩ := hrel
    have HR := Lib.hid hr
    clear HS
    by_cases hn4 : n < 16
    · have hn0 : (n : Int) < 16 := by omega
      have hsz : n < b.size := by rw [HB.out]; exact hn4
      have hB := byt_at b n hsz
      have hbl := byt_lt b n
      have hbw : wrap64 ((b[n].toNat : Nat) : Int) = ((byt b n : Nat) : Int) := by rw [hB]; unfold wrap64; omega
      have hx : bits .xor .i64 (byt b n : Int) (W n : Int) = ((byt b n ^^^ W n : Nat) : Int) := xor64 _ _ (by omega) (by have := HW.out n; omega)
      have hcn := HC.out n (by omega)
      have hcw := (hr.u.cell (p := ⟨gb, n, none⟩) (cell_lt hcn)).trans hcn
      have hf := hr.s.free n
      have hcs := hr.s.cell (j := n) (by omega)
      rw [upTo_at] at hcs
      have hnk : (n : Int) < (k : Int) := by have := HK.out; omega
      clear hr hB hbl hcn
      go_upto_region 5 with (fail)
      go_still_tail 11, (by kernel_rfl)
      go_wp2_with fail
      go_roundw
      case rel => exact ⟨n + 1, by omega, by go_num, (HR.out.put (upTo_put (fun j => byt b j ^^^ W j) (fun _ => 0) n)).upd (upd_drew (fun _ => False) _) (fun _ h => h.elim)⟩
      case measure => simp [intOf]; omega
    · have hn9 : n = 16 := by omega
      subst hn9
      have hr0 : RdoR w wr T (upTo (doS T W r (byt b) 0) (doS T W r (byt b) 0) 0) := by
        rw [upTo_zero]
        exact ⟨hr.t, hr.s.congr fun j hj => by rw [upTo_all _ _ _ j hj]; rfl, hr.u⟩
      rw [upTo_zero] at hr0
      have HR := Lib.hid hr0
      clear hr hr0
      go_wp2_with fail
      go_loopw [10] (fun i wr => ∃ n : Nat, n ≤ r ∧ i = .int .i64 ((n : Int) + 1) ∧ RdoR w wr T (doS T W r (byt b) n)) (fun i _ => r + 1 - (intOf i).toNat)
      case atStart => exact ⟨0, by omega, rfl, HR.out⟩
      case round =>
        obtain ⟨n, hn, rfl, hr⟩ := hrel
        have HR := Lib.hid hr
        clear hr
        by_cases hnr : n < r
        · have hn0 : (n : Int) + 1 ≤ (r : Int) := by omega
          have HGL := Lib.hid (fun j => doS_lt (S := T) (W := W) (b := byt b) r HT.out HW.out (byt_lt b) n j)
          have HDS := Lib.hid (show doS T W r (byt b) (n + 1) = fun j => (if n + 1 < r then mx cF (trn 1 fun j => T (doS T W r (byt b) n j)) else trn 1 fun j => T (doS T W r (byt b) n j)) j ^^^ W (16 * (n + 1) + j) from rfl)
          generalize hge : doS T W r (byt b) n = g at *
          have HGE := Lib.hid hge; clear hge
          have hz := zero63
          have HX0 := Lib.hid (show RdoR w (wr.alloc (.cells (ints 16 fun _ => 0) 63)) T g ∧ Bli (wr.alloc (.cells (ints 16 fun _ => 0) 63)) wr.heap.size 63 16 (upTo (trn 1 fun j => T (g j)) (fun _ => 0) 0) ∧ w.heap.size + 1 < wr.heap.size from
            ⟨HR.out.upd (upd_alloc (fun _ => False) wr _) (fun _ h => h.elim), by rw [upTo_zero]; exact Bli.new wr 63 16 _, HR.out.s.lt⟩)
          obtain ⟨X, hX⟩ : ∃ X, X = wr.heap.size := ⟨_, rfl⟩
          go_upto_region 11 with (fail)
          rw [← hX] at HX0
          rw [← hX]
          clear hz hX
          generalize World.alloc wr _ = w3 at *
          go_wp2_with fail
          go_loopw [12] (fun i wr => ∃ m : Nat, m ≤ 16 ∧ i = .int .i64 m ∧ RdoR w wr T g ∧ Bli wr X 63 16 (upTo (trn 1 fun j => T (g j)) (fun _ => 0) m)) (fun i _ => 16 - (intOf i).toNat)
          case atStart => exact ⟨0, by omega, rfl, HX0.out.1, HX0.out.2.1⟩
          case round =>
            obtain ⟨m, hm, rfl, hr, hx⟩ := hrel
            have HR := Lib.hid (And.intro hr hx)
            by_cases hm4 : m < 16
            · have hm0 : (m : Int) < 16 := by omega
              obtain ⟨q, hq⟩ : ∃ q, q = m % 4 := ⟨_, rfl⟩
              obtain ⟨p, hp⟩ : ∃ p, p = (m + 4 * (m % 4)) % 16 := ⟨_, rfl⟩
              have a1 : (m : Int).tmod 4 = (q : Int) := by rw [Int.tmod_eq_emod_of_nonneg (by omega)]; omega
              have a2 : (m : Int) % 4 = (q : Int) := by omega
              have a3 : ((m : Int) + 4 * (q : Int)).tmod 16 = (p : Int) := by rw [Int.tmod_eq_emod_of_nonneg (by omega)]; omega
              have a4 : ((m : Int) + 4 * (q : Int)) % 16 = (p : Int) := by omega
              have a5 : (q : Int) < 4 := by omega
              have a6 : (p : Int) < 16 := by omega
              have hpl : p < 16 := by omega
              have c1 := hr.s.cell (j := p) hpl
              have hgl := HGL.out p
              have hgl2 : (g p : Int) < 256 := by omega
              have c2 := hr.t.cell (j := g p) hgl
              have c3 := hx.cell (j := m) hm4
              have f3 := hx.free m
              rw [upTo_at] at c3
              have HP := Lib.hid (show T (g p) = trn 1 (fun j => T (g j)) m from by rw [hp]; exact trn_ref (fun j => T (g j)) m hm4)
              clear hr hx hq hp hpl hgl
              go_wp2_with fail
              go_roundw
              case rel => exact ⟨m + 1, by omega, by go_num, HR.out.1.put2 HR.out.2 HX0.out.2.2 (by rw [HP.out, upTo_put])⟩
              case measure => simp [intOf]; omega
            · have hm9 : m = 16 := by omega
              subst hm9
              have hx2 := hx.congr fun j hj => upTo_all (trn 1 fun j => T (g j)) (fun _ => 0) 16 j hj
              have HX := Lib.hid hx2
              have HRR := Lib.hid hr
              have HXL := Lib.hid HX0.out.2.2
              clear hr hx hx2 HX0 HR
              have HFL := Lib.hid (show ∀ j, trn 1 (fun j => T (g j)) j < 256 from fun j => HT.out _)
              generalize hfe : (trn 1 fun j => T (g j)) = F at *
              have HFE := Lib.hid hfe; clear hfe
              go_wp2_with fail
              go_loopw [13] (fun i wr => ∃ m : Nat, m ≤ 16 ∧ i = .int .i64 m ∧ RdoR w wr T (upTo (doS T W r (byt b) (n + 1)) g m) ∧ Bli wr X 63 16 F) (fun i _ => 16 - (intOf i).toNat)
              case atStart => exact ⟨0, by omega, rfl, by rw [upTo_zero]; exact HRR.out, HX.out⟩
              case round =>
                obtain ⟨m, hm, rfl, hr, hx⟩ := hrel
                have HR := Lib.hid (And.intro hr hx)
                by_cases hm4 : m < 16
                · have hm0 : (m : Int) < 16 := by omega
                  have c0 := hx.cell (j := m) hm4
                  obtain ⟨p, hp⟩ : ∃ p, p = 16 * (n + 1) + m := ⟨_, rfl⟩
                  have hpi : 16 * ((n : Int) + 1) + (m : Int) = (p : Int) := by omega
                  have hcp := HC.out p (by omega)
                  have c9 := (hr.u.cell (p := ⟨gb, p, none⟩) (cell_lt hcp)).trans hcp
                  have hpk : (p : Int) < (k : Int) := by have := HK.out; omega
                  have f9 := hr.s.free m
                  have c8 := hr.s.cell (j := m) hm4
                  rw [upTo_at] at c8
                  have hn50 : (n : Int) ≤ 50 := by omega
                  have hp9 : (p : Int) ≤ 2000 := by omega
                  by_cases hnl : n + 1 < r
                  · have hnl0 : (n : Int) + 1 < (r : Int) := by omega
                    obtain ⟨q, d, c, s1, s2, s3, p1, p2, p3, ⟨a1, a2, a3, a4, a5⟩, ⟨b1, b2, b3, b4, b5, b6⟩, ⟨e1, e2, e3⟩, ⟨l0, l1, l2, l3, l4, l5, l6, l7, l8⟩, ⟨w1, w2, w3, w4, w5, w6, w7, w8, w9⟩, hp1, hp2, hp3⟩ := mix_at m hm4
                    have HM := Lib.hid (And.intro (HFL.out m) (HFL.out p1))
                    obtain ⟨_, _, _, x4⟩ := join5 (mul (F m) 2) (mul (F p1) 3) (F p2) (F p3) (W p) (mul_lt _ _ HM.out.1) (mul_lt _ _ HM.out.2) (HFL.out p2) (HFL.out p3) (HW.out p)
                    have HE := Lib.hid (show doS T W r (byt b) (n + 1) m = mul (F m) 2 ^^^ mul (F p1) 3 ^^^ F p2 ^^^ F p3 ^^^ W p from by rw [HDS.out]; show (if n + 1 < r then mx cF F else F) m ^^^ W (16 * (n + 1) + m) = _; rw [if_pos hnl, mx_ref, ← hp1, ← hp2, ← hp3, hp])
                    have HB1 := Lib.hid (And.intro b1 (And.intro b2 (And.intro b3 (And.intro b4 (And.intro b5 b6)))))
                    have HE1 := Lib.hid (And.intro e1 (And.intro e2 e3))
                    have HL1 := Lib.hid (And.intro l4 (And.intro l5 l6))
                    have HW1 := Lib.hid (And.intro w1 (And.intro w2 (And.intro w3 (And.intro w4 (And.intro w5 (And.intro w6 (And.intro w7 (And.intro w8 w9))))))))
                    clear hr hx hp hcp hp1 hp2 hp3 hnl b1 b2 b3 b4 b5 b6 e1 e2 e3 l1 l2 l3 l4 l5 l6 w1 w2 w3 w4 w5 w6 w7 w8 w9
                    go_upto_region 21 with (fail)
                    refine rdo21 X m q c s1 s2 s3 p1 p2 p3 F wr _ hm4 HFL.out HR.out.2 HB1.out.1 HB1.out.2.1 HB1.out.2.2.1 HB1.out.2.2.2.1 HB1.out.2.2.2.2.1 HB1.out.2.2.2.2.2 HE1.out.1 HE1.out.2.1 HE1.out.2.2 HL1.out.1 HL1.out.2.1 HL1.out.2.2 HW1.out.1 HW1.out.2.1 HW1.out.2.2.1 HW1.out.2.2.2.1 HW1.out.2.2.2.2.1 HW1.out.2.2.2.2.2.1 HW1.out.2.2.2.2.2.2.1 HW1.out.2.2.2.2.2.2.2.1 HW1.out.2.2.2.2.2.2.2.2 ?_
                    intro y74 y75 y76 y77 y78 y79 y80 y81 y82 y83 y84 y85 y86 y87 y88 y89 y90 y91 y92 y93 y94 y95 y96 y97 y98 y99 y100 y101 y102
                    clear l0 l7 l8 a1 a2 a3 a4 a5
                    generalize mul (F m) 2 ^^^ mul (F p1) 3 ^^^ F p2 ^^^ F p3 = V at *
                    go_wp2_with fail
                    go_roundw
                    case rel => exact ⟨m + 1, by omega, by go_num, RdoR.put (wr := wr.drew) (HR.out.1.upd (upd_drew (fun _ => False) wr) (fun _ h => h.elim)) (by rw [← HE.out, upTo_put]), Bli.other (w := wr.drew) HR.out.2.drew (by show X ≠ w.heap.size + 1; have := HXL.out; omega) _⟩
                    case measure => simp [intOf]; omega
                  · have hnl0 : ¬ (n : Int) + 1 < (r : Int) := by omega
                    have x4 : bits .xor .i64 (F m : Int) (W p : Int) = ((F m ^^^ W p : Nat) : Int) := xor64 _ _ (by have := HFL.out m; omega) (by have := HW.out p; omega)
                    have HE := Lib.hid (show doS T W r (byt b) (n + 1) m = F m ^^^ W p from by rw [HDS.out]; show (if n + 1 < r then mx cF F else F) m ^^^ W (16 * (n + 1) + m) = _; rw [if_neg hnl, hp])
                    clear hr hx hp hcp hnl
                    go_wp2_with fail
                    go_roundw
                    case rel => exact ⟨m + 1, by omega, by go_num, HR.out.1.put (by rw [← HE.out, upTo_put]), HR.out.2.other (by show X ≠ w.heap.size + 1; have := HXL.out; omega) _⟩
                    case measure => simp [intOf]; omega
                · have hm9 : m = 16 := by omega
                  subst hm9
                  have HR := Lib.hid (show RdoR w wr T (doS T W r (byt b) (n + 1)) from ⟨hr.t, hr.s.congr fun j hj => upTo_all _ _ _ j hj, hr.u⟩)
                  clear hr hx
                  go_wp2_with fail
                  go_roundw
                  case rel => exact ⟨n + 1, by omega, by go_num, HR.out⟩
                  case measure => simp [intOf]; omega
        · have hn9 : n = r := by omega
          subst hn9
          have hn0 : ¬ (n : Int) + 1 ≤ (n : Int) := by omega
          have HGL := Lib.hid (fun j => doS_lt (S := T) (W := W) (b := byt b) n HT.out HW.out (byt_lt b) n j)
          generalize hge : doS T W n (byt b) n = g at *
          have HGE := Lib.hid hge; clear hge
          have hmk := make16
          have HX0 := Lib.hid (show RdoR w (wr.alloc (.cells (arr 16 fun _ => 0) 5)) T g ∧ Blk (wr.alloc (.cells (arr 16 fun _ => 0) 5)) wr.heap.size 5 16 (upTo g (fun _ => 0) 0) ∧ w.heap.size + 1 < wr.heap.size from
            ⟨HR.out.upd (upd_alloc (fun _ => False) wr _) (fun _ h => h.elim), by rw [upTo_zero]; exact Blk.new wr 5 16 _, HR.out.s.lt⟩)
          obtain ⟨X, hX⟩ : ∃ X, X = wr.heap.size := ⟨_, rfl⟩
          clear hnr hr1 hr2
          go_upto_region 24 with (fail)
          rw [← hX] at HX0
          rw [← hX]
          clear hmk hX
          generalize World.alloc wr _ = w3 at *
          go_wp2_with fail
          go_loopw [18] (fun i wr => ∃ m : Nat, m ≤ 16 ∧ i = .int .i64 m ∧ RdoR w wr T g ∧ Blk wr X 5 16 (upTo g (fun _ => 0) m)) (fun i _ => 16 - (intOf i).toNat)
          case atStart => exact ⟨0, by omega, rfl, HX0.out.1, HX0.out.2.1⟩
          case round =>
            obtain ⟨m, hm, rfl, hr, hx⟩ := hrel
            have HR := Lib.hid (And.intro hr hx)
            by_cases hm4 : m < 16
            · have hm0 : (m : Int) < 16 := by omega
              have c1 := hr.s.cell (j := m) hm4
              have hgl := HGL.out m
              have hwr : IntKind.u8.wrap (g m : Int) = (g m : Int) := by rw [IntKind.wrap_u8]; omega
              have c3 := hx.cell (j := m) hm4
              have f3 := hx.free m
              rw [upTo_at] at c3
              clear hr hx hgl
              go_wp2_with fail
              go_roundw
              case rel => exact ⟨m + 1, by omega, by go_num, HR.out.1.upd (upd_setCell _ ⟨X, m, none⟩ _) (fun k e => by have := HX0.out.2.2; simp at e; omega), by have h := HR.out.2.set m (g m); rw [upTo_put] at h; exact h⟩
              case measure => simp [intOf]; omega
            · have hm9 : m = 16 := by omega
              subst hm9
              have hx2 := hx.congr fun j hj => upTo_all g (fun _ => 0) 16 j hj
              have hcv := conv_txt _ ⟨X, 0, none⟩ 16 g HGL.out (cells_add hx2)
              have HU := Lib.hid hr.u
              clear hr hx hx2 HR
              go_wp2_with fail
              go_ret
              refine ⟨?_, HU.out⟩
              rw [← HGE.out]
              rfl
end Go.Proofs.Ytlhakobfjokabaa
