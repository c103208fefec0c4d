/-
  The contract of Undo, and of the short cases.
-/
import Derived.Test.YtlhakobfjokabaaDo
namespace Go.Proofs.Ytlhakobfjokabaa
open Go.RowKit

set_option maxHeartbeats 1000000 in
set_option maxRecDepth 100000 in
theorem undo_any (C r gb cap : Nat) (S B G : Nat → Nat) (s : ByteArray) (w : World) (h : Rdy w C r gb cap S B G) (hB : ∀ j, B j < 256) (hG : ∀ j, G j < 256) (hr1 : 1 ≤ r) (hr2 : r ≤ 50) (hs : s.size = 16) :
    Calls Try.prog 19 #[.pointer (some ⟨C, 0, none⟩), .string s] w fun e w' => e = .returned (.string (txt (dec B G r (byt s)))) ∧ Below w.heap.size w w' := by
  have HB := Lib.hid hB; clear hB
  have HG := Lib.hid hG; clear hG
  have HL := Lib.hid h
  have hss : (s.size : Int) = 16 := by omega
  have HZ := Lib.hid hs; clear hs h
  have hnew := Lib.hid (fun w1 : World => Blk.new w1 55 16 fun _ => 0)
  go_enter Try.func19, Try.ntmps19
  go_upto_region 3 with (fail)
  go_upto_region 4 with (first
    | (go_at_call 26; (with_reducible refine (read_any s _ HZ.out).mono ?_); rintro e w1 ⟨rfl, hb1⟩)
    | (rw [zeros16]; refine wpList_store_row rfl 55 (.tmp 5) (.tmp 11) rfl w1.heap.size (arr 16 (byt s)) rfl rfl 55 _ (hnew.out w1) (size16 55 i55 _) (by rw [arr_size, arr_size]) (arr_one _ _) ?_))
  have hr0 : DoR w ((w1.alloc (.cells (arr 16 fun _ => 0) 55)).setRow w1.heap.size (arr 16 (byt s))) C r gb cap S B G w1.heap.size (byt s) :=
    (DoR.mk (HL.out.below (Nat.le_refl _) (hb1.alloc hb1.size _)) (hnew.out w1) hb1.size HL.out.lt (hb1.alloc hb1.size _)).set (byt s)
  have HR := Lib.hid hr0
  clear hr0 hb1
  have c0 := HR.out.c.c.c0
  generalize hW5 : w1.heap.size = W5 at *
  clear hW5
  generalize World.setRow (World.alloc w1 _) _ _ = w2 at *
  go_wp2_with fail
  go_loopw [6] (fun i wr => ∃ t : Nat, t ≤ r ∧ i = .int .i64 (t : Int) ∧ DoR w wr C r gb cap S B G W5 (unS B G r (byt s) (r - t))) (fun i _ => (intOf i).toNat)
  case atStart => exact ⟨r, by omega, rfl, by rw [Nat.sub_self]; exact HR.out⟩
  case round =>
    clear c0
    obtain ⟨t, ht, rfl, hr⟩ := hrel
    have HR := Lib.hid hr
    have c0 := hr.c.c.c0
    clear hr
    by_cases ht0 : 0 < t
    · have hk1 : (0 : Int) < (t : Int) := by omega
      rename_i wr
      have hf := fun j => unS_lt (B := B) (W := G) (b := byt s) r HB.out (byt_lt s) (r - t) j
      have HF := Lib.hid hf; clear hf
      go_upto_region 7 with (fail)
      refine un7 C W5 gb (r + 1) cap t _ (unS B G r (byt s) (r - t)) (fun j => G (16 * t + j)) wr _ rfl (by omega) (by omega) HR.out.c.cap HF.out (fun j => HG.out _) HR.out.c.c.c1 (HR.out.c.g t ht) HR.out.b ?_
      intro y20 y21 y22 y23 y24 y25 y26 y27 y28 w6 hbel
      have HR6 := Lib.hid (HR.out.row hbel (fun j => unS B G r (byt s) (r - t) j ^^^ G (16 * t + j)))
      clear hbel
      have c06 := HR6.out.c.c.c0
      obtain ⟨F, hF⟩ : ∃ F, F = fun j => unS B G r (byt s) (r - t) j ^^^ G (16 * t + j) := ⟨_, rfl⟩
      rw [← hF] at HR6 c06
      rw [← hF]
      generalize hw7 : World.setRow w6 _ _ = w7 at *
      clear hw7
      have hFl : ∀ j, F j < 256 := by rw [hF]; intro j; exact Ytlhakobfjokabaa.x8 (HF.out j) (HG.out _)
      have HFl := Lib.hid hFl; clear hFl
      have HFE := Lib.hid hF; clear hF
      by_cases hlt : t < r
      · have hlt1 : (t : Int) < (r : Int) := by omega
        go_upto_region 10 with (first
          | (refine wpList_load_row rfl 55 (.tmp 5) rfl W5 rfl 55 (arr 16 F) (0, 0) _ HR6.out.b Try.underlying55 rfl (size16 55 i55 _) ?_)
          | (go_at_call 30; rw [buildB]; (with_reducible refine (mix_any cB F _ HFl.out cB_lt).mono ?_); rintro e w8 ⟨rfl, hb8⟩; have HR8 := Lib.hid (HR6.out.keep hb8); clear hb8)
          | (refine wpList_store_row rfl 55 (.tmp 5) (.tmp 37) rfl W5 (arr 16 (mx cB F)) rfl rfl 55 _ HR8.out.b (size16 55 i55 _) (by rw [arr_size, arr_size]) (arr_one _ _) ?_))
        have HR9 := Lib.hid (HR8.out.set (mx cB F))
        refine un10 C W5 (mx cB F) B _ _ (fun j => mx_lt _ _ HFl.out j) (fun j hj => HR9.out.c.c.b j hj) HR9.out.b ?_
        intro y38 y39 y40 y41 y42 y43 w9 hbel
        have hr10 := HR9.out.row hbel (fun j => B (trn 3 (mx cB F) j))
        have hd : (fun j => B (trn 3 (mx cB F) j)) = unS B G r (byt s) (r - t + 1) := by rw [unS, show r - (r - t) = t by omega, if_pos hlt, HFE.out]
        rw [hd] at hr10 ⊢
        have HR10 := Lib.hid hr10
        clear hbel hr10 hd
        go_wp2_with fail
        go_roundw
        case rel => exact ⟨t - 1, by omega, by rw [show ((t - 1 : Nat) : Int) = (t : Int) - 1 by omega], by rw [show r - (t - 1) = r - t + 1 by omega]; exact HR10.out⟩
        case measure => simp [intOf]; omega
      · have hlt1 : ¬ (t : Int) < (r : Int) := by omega
        go_upto_region 10 with (fail)
        have HR9 := HR6
        refine un10 C W5 F B _ _ HFl.out (fun j hj => HR9.out.c.c.b j hj) HR9.out.b ?_
        intro y38 y39 y40 y41 y42 y43 w9 hbel
        have hr10 := HR9.out.row hbel (fun j => B (trn 3 F j))
        have hd : (fun j => B (trn 3 F j)) = unS B G r (byt s) (r - t + 1) := by rw [unS, show r - (r - t) = t by omega, if_neg hlt, HFE.out]
        rw [hd] at hr10 ⊢
        have HR10 := Lib.hid hr10
        clear hbel hr10 hd
        go_wp2_with fail
        go_roundw
        case rel => exact ⟨t - 1, by omega, by rw [show ((t - 1 : Nat) : Int) = (t : Int) - 1 by omega], by rw [show r - (t - 1) = r - t + 1 by omega]; exact HR10.out⟩
        case measure => simp [intOf]; omega
    · have ht9 : t = 0 := by omega
      subst ht9
      rename_i wr
      clear ht0
      go_upto_region 11 with (fail)
      refine un11 C W5 gb (r + 1) cap (unS B G r (byt s) r) (fun j => G j) wr _ (by omega) (by omega) HR.out.c.cap (fun j => unS_lt r HB.out (byt_lt s) r j) (fun j => HG.out j) HR.out.c.c.c1 (by have := HR.out.c.g 0 (Nat.zero_le _); simpa using this) HR.out.b ?_
      intro y44 y45 y46 y47 y48 y49 y50 y51 y52 w6 hbel
      have HU := Lib.hid (HR.out.u.trans (hbel.mono HR.out.u.size))
      clear hbel
      go_wp2_with fail
      go_ret
      exact ⟨rfl, HU.out⟩
theorem do_short (C : Nat) (s : ByteArray) (w : World) (hs : s.size ≠ 16) (hm : s.size ≤ 1000) :
    Calls Try.prog 16 #[.pointer (some ⟨C, 0, none⟩), .string s] w fun e w' => e = .returned (.string ⟨#[]⟩) ∧ w = w' := by
  have e1 : ((s.size : Int) != 16) = true := by rw [bne_iff_ne]; omega
  have e2 : ¬ (s.size : Int) = 16 := by omega
  clear hs
  go_enter Try.func16, Try.ntmps16
  go_wp2_with fail
  go_ret
  exact ⟨rfl, rfl⟩
theorem undo_short (C : Nat) (s : ByteArray) (w : World) (hs : s.size ≠ 16) (hm : s.size ≤ 1000) :
    Calls Try.prog 19 #[.pointer (some ⟨C, 0, none⟩), .string s] w fun e w' => e = .returned (.string ⟨#[]⟩) ∧ w = w' := by
  have e1 : ((s.size : Int) != 16) = true := by rw [bne_iff_ne]; omega
  have e2 : ¬ (s.size : Int) = 16 := by omega
  clear hs
  go_enter Try.func19, Try.ntmps19
  go_wp2_with fail
  go_ret
  exact ⟨rfl, rfl⟩
theorem rounds_any (C r : Nat) (w : World) (h : w.cell? ⟨C, 0, none⟩ = some (.int .i64 r)) :
    Calls Try.prog 20 #[.pointer (some ⟨C, 0, none⟩)] w fun e w' => e = .returned (.int .i64 r) ∧ w = w' := by
  go_enter Try.func20, Try.ntmps20
  go_wp2_with fail
  go_ret
  exact ⟨rfl, rfl⟩
end Go.Proofs.Ytlhakobfjokabaa
