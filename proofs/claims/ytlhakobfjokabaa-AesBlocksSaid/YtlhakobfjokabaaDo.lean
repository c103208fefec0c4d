/-
  The contracts of Do and Undo.
-/
import Derived.Test.YtlhakobfjokabaaDoRegs
namespace Go.Proofs.Ytlhakobfjokabaa
open Go.RowKit

/-- A cipher ready for use. -/
structure Rdy (w : World) (C r gb cap : Nat) (S B G : Nat → Nat) : Prop where
  c : Ciph w C r (.slice (some ⟨gb, 0, none⟩) (r + 1) cap) S B
  g : ∀ i, i ≤ r → w.rangeAt gb (i * 16) (arr 16 fun j => G (16 * i + j)).toList
  cap : r + 1 ≤ cap
theorem Rdy.keep {w w' : World} {C r gb cap : Nat} {S B G : Nat → Nat} (h : Rdy w C r gb cap S B G) {T : Nat → Prop} (hu : Upd T w w') (hC : ¬ T C) (hg : ¬ T gb) : Rdy w' C r gb cap S B G :=
  ⟨h.c.keep hu hC, fun i hi => range_upd hu (h.g i hi) hg, h.cap⟩
theorem Rdy.lt {w : World} {C r gb cap : Nat} {S B G : Nat → Nat} (h : Rdy w C r gb cap S B G) : C < w.heap.size ∧ gb < w.heap.size :=
  ⟨h.c.lt, rangeAt_lt (h.g 0 (Nat.zero_le _)) (by simp [arr])⟩
theorem Rdy.below {w w' : World} {C r gb cap : Nat} {S B G : Nat → Nat} (h : Rdy w C r gb cap S B G) {n : Nat} (hn : w.heap.size ≤ n) (hu : Below n w w') : Rdy w' C r gb cap S B G :=
  h.keep (T := fun k => n ≤ k) ⟨hu.os, hu.tape, hu.output, hu.size, fun k _ hk => hu.block k (by omega)⟩ (by have := h.lt; omega) (by have := h.lt; omega)

/-- What Do and Undo have in memory. -/
structure DoR (w wr : World) (C r gb cap : Nat) (S B G : Nat → Nat) (W5 : Nat) (g : Nat → Nat) : Prop where
  c : Rdy wr C r gb cap S B G
  b : Blk wr W5 55 16 g
  lo : w.heap.size ≤ W5
  hC : C < w.heap.size ∧ gb < w.heap.size
  u : Below w.heap.size w wr
theorem DoR.row {w wr w6 : World} {C r gb cap : Nat} {S B G : Nat → Nat} {W5 : Nat} {g : Nat → Nat} (h : DoR w wr C r gb cap S B G W5 g) (hu : Below wr.heap.size wr w6) (g' : Nat → Nat) :
    DoR w (w6.setRow W5 (arr 16 g')) C r gb cap S B G W5 g' := by
  have h1 := h.c.below (Nat.le_refl _) hu
  have h2 := h.b.keep (upd_of_below (S := fun _ => False) hu) (fun h => h)
  have h3 := upd_setRow w6 W5 (arr 16 g')
  have hlo := h.lo
  have hC := h.hC
  have hs := h.u.trans (hu.mono h.u.size)
  exact ⟨h1.keep h3 (by omega) (by omega), h2.setRow _, h.lo, h.hC, hs.trans (h3.below hs.size (by intro k e; omega))⟩

theorem DoR.keep {w wr w6 : World} {C r gb cap : Nat} {S B G : Nat → Nat} {W5 : Nat} {g : Nat → Nat} (h : DoR w wr C r gb cap S B G W5 g) (hu : Below wr.heap.size wr w6) : DoR w w6 C r gb cap S B G W5 g :=
  ⟨h.c.below (Nat.le_refl _) hu, h.b.keep (upd_of_below (S := fun _ => False) hu) (fun h => h), h.lo, h.hC, h.u.trans (hu.mono h.u.size)⟩
theorem DoR.set {w wr : World} {C r gb cap : Nat} {S B G : Nat → Nat} {W5 : Nat} {g : Nat → Nat} (h : DoR w wr C r gb cap S B G W5 g) (g' : Nat → Nat) : DoR w (wr.setRow W5 (arr 16 g')) C r gb cap S B G W5 g' := h.row (Below.refl _ _) g'
theorem buildF : (#[.int .u8 2, .int .u8 3, .int .u8 1, .int .u8 1] : Array Value) = arr 4 cF := by rfl
theorem buildB : (#[.int .u8 14, .int .u8 11, .int .u8 13, .int .u8 9] : Array Value) = arr 4 cB := by rfl

set_option maxHeartbeats 1000000 in
set_option maxRecDepth 100000 in
theorem do_any (C r gb cap : Nat) (S B G : Nat → Nat) (s : ByteArray) (w : World) (h : Rdy w C r gb cap S B G) (hS : ∀ j, S j < 256) (hG : ∀ j, G j < 256) (hr1 : 1 ≤ r) (hr2 : r ≤ 50) (hs : s.size = 16) :
    Calls Try.prog 16 #[.pointer (some ⟨C, 0, none⟩), .string s] w fun e w' => e = .returned (.string (txt (enc S G r (byt s)))) ∧ Below w.heap.size w w' := by
  have HS := Lib.hid hS; clear hS
  have HG := Lib.hid hG; clear hG
  have HL := Lib.hid h
  have hss : (s.size : Int) = 16 := by omega
  have HZ := Lib.hid hs; clear hs h
  go_enter Try.func16, Try.ntmps16
  go_upto_region 3 with (fail)
  refine do3 C gb (r + 1) cap s (fun j => G j) w _ (by omega) (by omega) HL.out.cap HZ.out (fun j => HG.out j) HL.out.c.c1 (by have := HL.out.g 0 (Nat.zero_le _); simpa using this) ?_
  intro y10 y11 y12 y13 y14 y15 y16 y17 y18 W5 w6 hlo hblk hbel
  have HR := Lib.hid (show DoR w w6 C r gb cap S B G W5 (doS S G r (byt s) 0) from ⟨HL.out.below (Nat.le_refl _) hbel, hblk, hlo, HL.out.lt, hbel⟩)
  clear hlo hblk hbel
  go_wp2_with fail
  go_loopw [6] (fun i wr => ∃ k : Nat, k ≤ r ∧ i = .int .i64 ((k : Int) + 1) ∧ DoR w wr C r gb cap S B G W5 (doS S G r (byt s) k)) (fun i _ => r + 1 - (intOf i).toNat)
  case atStart => exact ⟨0, by omega, rfl, HR.out⟩
  case round =>
    obtain ⟨k, hk, rfl, hr⟩ := hrel
    have HR := Lib.hid hr
    have c0 := hr.c.c.c0
    clear hr
    by_cases hkr : k < r
    · have hk1 : (k : Int) + 1 ≤ (r : Int) := by omega
      rename_i wr
      have hf := fun j => doS_lt (S := S) (W := G) (b := byt s) r HS.out HG.out (byt_lt s) k j
      have HF := Lib.hid hf; clear hf
      go_upto_region 7 with (fail)
      refine do7 C W5 (doS S G r (byt s) k) S wr _ HF.out (fun j hj => HR.out.c.c.s j hj) HR.out.b ?_
      intro y27 y28 y29 y30 y31 y32 w6 hbel
      have HR6 := Lib.hid (HR.out.row hbel (trn 1 fun j => S (doS S G r (byt s) k j)))
      clear hbel
      have c06 := HR6.out.c.c.c0
      have hC7 : (((k : Int) + 1) < (r : Int)) ↔ (k + 1 < r) := by omega
      obtain ⟨F, hF⟩ : ∃ F, F = trn 1 fun j => S (doS S G r (byt s) k j) := ⟨_, rfl⟩
      rw [← hF] at HR6 c06
      rw [← hF]
      generalize hw7 : World.setRow w6 _ _ = w7 at *
      clear hw7
      have hFl : ∀ j, F j < 256 := by rw [hF]; intro j; exact HS.out _
      have HFl := Lib.hid hFl; clear hFl
      have HFE := Lib.hid hF; clear hF
      by_cases hlt : k + 1 < r
      · have hlt1 : (k : Int) + 1 < (r : Int) := by omega
        go_upto_region 10 with (first
          | (refine wpList_load_row rfl 55 (.tmp 5) rfl W5 rfl 55 (arr 16 F) (0, 0) _ HR6.out.b Try.underlying55 rfl (size16 55 i55 _) ?_)
          | (go_at_call 30; rw [buildF]; (with_reducible refine (mix_any cF F _ HFl.out cF_lt).mono ?_); rintro e w8 ⟨rfl, hb8⟩; have HR8 := Lib.hid (HR6.out.keep hb8); clear hb8)
          | (refine wpList_store_row rfl 55 (.tmp 5) (.tmp 41) rfl W5 (arr 16 (mx cF F)) rfl rfl 55 _ HR8.out.b (size16 55 i55 _) (by rw [arr_size, arr_size]) (arr_one _ _) ?_))
        have HR9 := Lib.hid (HR8.out.set (mx cF F))
        refine do10 C W5 gb (r + 1) cap (k + 1) _ (mx cF F) (fun j => G (16 * (k + 1) + j)) _ _ (by omega) (by omega) (by omega) HR9.out.c.cap (fun j => mx_lt _ _ HFl.out j) (fun j => HG.out _) HR9.out.c.c.c1 (HR9.out.c.g (k + 1) (by omega)) HR9.out.b ?_
        intro y42 y43 y44 y45 y46 y47 y48 y49 y50 w9 hbel
        have hr10 := HR9.out.row hbel (fun j => mx cF F j ^^^ G (16 * (k + 1) + j))
        have hd : (fun j => mx cF F j ^^^ G (16 * (k + 1) + j)) = doS S G r (byt s) (k + 1) := by rw [doS, if_pos hlt, HFE.out]
        rw [hd] at hr10 ⊢
        have HR10 := Lib.hid hr10
        clear hbel hr10 hd
        go_wp2_with fail
        go_roundw
        case rel => exact ⟨k + 1, by omega, by go_num, HR10.out⟩
        case measure => simp [intOf]; omega
      · have hlt1 : ¬ (k : Int) + 1 < (r : Int) := by omega
        go_upto_region 10 with (fail)
        have HR9 := HR6
        refine do10 C W5 gb (r + 1) cap (k + 1) _ (F) (fun j => G (16 * (k + 1) + j)) _ _ (by omega) (by omega) (by omega) HR9.out.c.cap HFl.out (fun j => HG.out _) HR9.out.c.c.c1 (HR9.out.c.g (k + 1) (by omega)) HR9.out.b ?_
        intro y42 y43 y44 y45 y46 y47 y48 y49 y50 w9 hbel
        have hr10 := HR9.out.row hbel (fun j => F j ^^^ G (16 * (k + 1) + j))
        have hd : (fun j => F j ^^^ G (16 * (k + 1) + j)) = doS S G r (byt s) (k + 1) := by rw [doS, if_neg hlt, HFE.out]
        rw [hd] at hr10 ⊢
        have HR10 := Lib.hid hr10
        clear hbel hr10 hd
        go_wp2_with fail
        go_roundw
        case rel => exact ⟨k + 1, by omega, by go_num, HR10.out⟩
        case measure => simp [intOf]; omega
    · have hk1 : ¬ (k : Int) + 1 ≤ (r : Int) := by omega
      have hkr9 : k = r := by omega
      subst hkr9
      go_wp2_with (first
        | (refine wpList_load_row rfl 55 (.tmp 5) rfl W5 rfl 55 (arr 16 (doS S G k (byt s) k)) (0, 0) _ HR.out.b Try.underlying55 rfl (size16 55 i55 _) ?_))
      refine (write_any (doS S G k (byt s) k) _ (fun j => doS_lt k HS.out HG.out (byt_lt s) k j)).mono ?_
      rintro e w9 ⟨rfl, hb9⟩
      have HU := Lib.hid (HR.out.u.trans (hb9.mono HR.out.u.size))
      clear hb9
      go_wp2_with fail
      go_ret
      exact ⟨rfl, HU.out⟩
end Go.Proofs.Ytlhakobfjokabaa
