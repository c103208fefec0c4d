/-
  The law AesBlocks, walked.
-/
import Derived.Test.YtlhakobfjokabaaBlkReg
namespace Go.Proofs.Ytlhakobfjokabaa
open Go.RowKit

/-- What New does of a key. -/
def NewOf (key : ByteArray) (n : Nat) : Prop := ∀ w, Calls Try.prog 14 #[.string key] w fun e w' => ∃ (C gb cap : Nat), e = .returned (.tuple #[.pointer (some ⟨C, 0, none⟩), .int .i64 0]) ∧ Rdy w' C (n + 6) gb cap (subT 255) (backT (subT 255) 256) (ex (subT 255) (byt key) n (4 * (n + 7))).2 ∧ Below w.heap.size w w'
theorem new_rdy2 (n : Nat) (key : ByteArray) (w : World) (hn : n = 4 ∨ n = 8) (hk : key.size = 4 * n) :
    Calls Try.prog 14 #[.string key] w fun e w' => ∃ (C gb cap : Nat), e = .returned (.tuple #[.pointer (some ⟨C, 0, none⟩), .int .i64 0]) ∧
      Rdy w' C (n + 6) gb cap (subT 255) (backT (subT 255) 256) (ex (subT 255) (byt key) n (4 * (n + 7))).2 ∧ Below w.heap.size w w' :=
  (new_ok n key w hn hk).mono fun e w' ⟨C, v, he, hm⟩ => by
    obtain ⟨gb, cap, hr⟩ := hm.rdy
    exact ⟨C, gb, cap, he, hr, hm.u⟩

set_option maxHeartbeats 1000000 in
set_option maxRecDepth 100000 in
theorem law_blocks (f g : Nat → Nat) (long : Bool) (w : World) (hf : ∀ j, f j < 256) (hg : ∀ j, g j < 256) :
    Calls Try.prog 6 #[.agg (arr 32 f), .bool long, .agg (arr 16 g)] w fun e w' => e = .returned (.bool true) ∧ Below w.heap.size w w' := by
  have hk0 := (Blk.new w 29 32 f).alloc (.cells (arr 16 g) 30)
  have hk1 := Blk.new (w.alloc (.cells (arr 32 f) 29)) 30 16 g
  have hU0 := ((Below.refl w.heap.size w).alloc (Nat.le_refl _) (.cells (arr 32 f) 29)).alloc (by rw [World.size_alloc]; omega) (.cells (arr 16 g) 30)
  rw [World.size_alloc] at hk1
  have HK0 := Lib.hid hk0
  have HK1 := Lib.hid hk1
  have HU0 := Lib.hid hU0
  clear hk0 hk1 hU0
  have HF := Lib.hid (And.intro hf hg); clear hf hg
  go_enter Try.func6, Try.ntmps6
  go_upto_region 1 with (fail)
  generalize World.alloc (World.alloc w _) _ = w1 at *
  have hcv := conv_str 32 w1 ⟨w.heap.size, 0, none⟩ 32 f HF.out.1 (cells_add HK0.out)
  go_upto_region 2 with (fail)
  have hK := str_size 32 f
  generalize str 32 f = K at *
  clear hcv
  cases long
  case' false =>
    have hx : (K.extract 0 16).size = 4 * 4 := by rw [ByteArray.size_extract, hK]; decide
    have HKZ := Lib.hid (show ∃ n, (n = 4 ∨ n = 8) ∧ (K.extract 0 16).size = 4 * n ∧ NewOf (K.extract 0 16) n from ⟨4, Or.inl rfl, hx, fun w => new_rdy2 4 (K.extract 0 16) w (Or.inl rfl) hx⟩)
    clear hx
    have hk32 : (K.size : Int) = 32 := by omega
    go_upto_region 4 with (fail)
    generalize K.extract 0 16 = key at *
  case' true =>
    have HKZ := Lib.hid (show ∃ n, (n = 4 ∨ n = 8) ∧ K.size = 4 * n ∧ NewOf K n from ⟨8, Or.inr rfl, hK, fun w => new_rdy2 8 K w (Or.inr rfl) hK⟩)
    go_upto_region 4 with (fail)
    clear hK
    generalize K = key at *
  all_goals
    obtain ⟨n, hn, hkz, hnw⟩ := HKZ.out
    have HX := Lib.hid hnw
    have HN := Lib.hid (And.intro hn hkz)
    clear hn hkz hnw HKZ
    go_wp2_with fail
    refine (HX.out _).mono ?_
    rintro e w2 ⟨C, gb, cap, rfl, hr, hbl⟩
    have HR := Lib.hid hr
    have HB5 := Lib.hid (HK1.out.keep (upd_of_below (S := fun _ => False) hbl) (fun h => h))
    have HU := Lib.hid (HU0.out.trans (hbl.mono HU0.out.size))
    clear hr hbl
    go_wp2_with fail
    refine (awake_any _).mono ?_
    rintro e w3 ⟨rfl, rfl⟩
    have hz := zero36
    have hnew := Lib.hid (fun w1 : World => Bli.new w1 36 256 fun _ => 0)
    go_upto_region 8 with (first
      | (go_at_call 15; (with_reducible refine (refTable_any _).mono ?_); rintro e w4 ⟨rfl, hb4⟩; have HB4 := Lib.hid hb4; clear hb4)
      | (refine wpList_store_row rfl 36 (.tmp 10) (.tmp 32) rfl w4.heap.size (ints 256 (subT 255)) rfl rfl 36 _ (hnew.out w4) (sizeI 36 i36 _) (by rw [ints_size, ints_size]) (ints_one _ _) ?_))
    clear hz
    have hu6 : Below w2.heap.size w2 ((w4.alloc (.cells (ints 256 fun _ => 0) 36)).setRow w4.heap.size (ints 256 (subT 255))) :=
      ((HB4.out.alloc HB4.out.size _).trans ((upd_setRow _ w4.heap.size _).below (HB4.out.alloc HB4.out.size _).size (by intro k e; rw [e]; exact HB4.out.size)))
    have hb10 := (hnew.out w4).setRow (subT 255)
    have HR6 := Lib.hid (HR.out.below (Nat.le_refl _) hu6)
    have HB6 := Lib.hid (HB5.out.keep (upd_of_below (S := fun _ => False) hu6) (fun h => h))
    have HU6 := Lib.hid (HU.out.trans (hu6.mono HU.out.size))
    have HB10 := Lib.hid hb10
    clear hu6 hb10
    generalize World.setRow (World.alloc w4 _) _ _ = w6 at *
    refine blk8 C gb cap (w.heap.size + 1) w4.heap.size n g (subT 255) (backT (subT 255) 256) _ key (str 16 g) w6 _ HN.out.1 HN.out.2 (subT_lt 255) (key_lt key n) rfl HF.out.2 rfl HR6.out HB6.out HB10.out ?_
    intro y33 y34 y35 y36 y37 y38 y39 y40 y41 y42 y43 y44 w7 hbl
    have HU7 := Lib.hid (HU6.out.trans (hbl.mono HU6.out.size))
    clear hbl
    go_wp2_with fail
    go_ret
    exact ⟨rfl, HU7.out⟩
end Go.Proofs.Ytlhakobfjokabaa
