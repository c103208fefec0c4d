/-
  The law AesUndoes, walked.
-/
import Derived.Test.YtlhakobfjokabaaKeys
namespace Go.Proofs.Ytlhakobfjokabaa
open Go.RowKit

/-- The text of so many bytes. -/
def str (n : Nat) (f : Nat → Nat) : ByteArray := ⟨((List.range n).map fun j => UInt8.ofNat (f j)).toArray⟩
theorem str_size (n : Nat) (f : Nat → Nat) : (str n f).size = n := by simp [str, ByteArray.size]
theorem conv_str (n : Nat) (w : World) (a : Addr) (cap : Nat) (f : Nat → Nat) (hf : ∀ j, f j < 256) (hc : ∀ j u, (arr n f).toList[j]? = some u → w.cell? (a.add j) = some u) :
    (convert 31 9 (.slice (some a) n cap)).run Try.prog w = .ok (.string (str n f)) w := by
  have := run_convert_bytes_back (P := Try.prog) w 31 9 5 a cap ((List.range n).map fun j => UInt8.ofNat (f j)) Try.underlying31 Try.underlying5 Try.underlying9 (fun j hj => by
    have hj : j < n := by simpa using hj
    refine hc j _ ?_
    rw [Array.getElem?_toList, arr_at n f j hj]
    simp
    have := hf j
    omega)
  simpa [str] using this
theorem undo_do (S B W : Nat → Nat) (s : ByteArray) (r : Nat) (hs : s.size = 16) (hS : ∀ j, S j < 256) (hW : ∀ j, W j < 256) (hBS : ∀ x, x < 256 → B (S x) = x) : txt (dec B W r (byt (txt (enc S W r (byt s))))) = s := by
  have h1 : Same (byt (txt (enc S W r (byt s)))) (enc S W r (byt s)) := fun j hj => byt_txt _ (fun j => doS_lt r hS hW (byt_lt s) r j) j hj
  have h2 : Same (dec B W r (byt (txt (enc S W r (byt s))))) (byt s) := ((unS_same (B := B) (W := W) (r := r) h1 r).xor W).trans (dec_enc r hS hW (byt_lt s) hBS)
  rw [txt_congr h2, txt_byt s hs]
theorem do_undo (S B W : Nat → Nat) (s : ByteArray) (r : Nat) (hs : s.size = 16) (hB : ∀ j, B j < 256) (hW : ∀ j, W j < 256) (hSB : ∀ x, x < 256 → S (B x) = x) : txt (enc S W r (byt (txt (dec B W r (byt s))))) = s := by
  have h1 : Same (byt (txt (dec B W r (byt s)))) (dec B W r (byt s)) := fun j hj => byt_txt _ (fun j => x8 (unS_lt r hB (byt_lt s) r j) (hW j)) j hj
  have h2 : Same (enc S W r (byt (txt (dec B W r (byt s))))) (byt s) := (doS_same (S := S) (W := W) (r := r) h1 r).trans (enc_dec r hB hW (byt_lt s) hSB)
  rw [txt_congr h2, txt_byt s hs]

theorem new_rdy (n : Nat) (key : ByteArray) (w : World) (hn : n = 4 ∨ n = 8) (hk : key.size = 4 * n) :
    Calls Try.prog 14 #[.string key] w fun e w' => ∃ (C r gb cap : Nat) (W : Nat → Nat), e = .returned (.tuple #[.pointer (some ⟨C, 0, none⟩), .int .i64 0]) ∧ Rdy w' C r gb cap (subT 255) (backT (subT 255) 256) W ∧ (∀ j, W j < 256) ∧ (1 ≤ r ∧ r ≤ 50) ∧ Below w.heap.size w w' :=
  (new_ok n key w hn hk).mono fun e w' ⟨C, v, he, hm⟩ => by
    obtain ⟨gb, cap, hr⟩ := hm.rdy
    exact ⟨C, n + 6, gb, cap, _, he, hr, key_lt key n, by omega, hm.u⟩

set_option maxHeartbeats 1000000 in
set_option maxRecDepth 100000 in
theorem law_undoes (f g : Nat → Nat) (long : Bool) (w : World) (hf : ∀ j, f j < 256) (hg : ∀ j, g j < 256) :
    Calls Try.prog 7 #[.agg (arr 32 f), .bool long, .agg (arr 16 g)] w fun e w' => e = .returned (.bool true) ∧ Below w.heap.size w w' := by
  have hk0 := (Blk.new w 29 32 f).alloc (.cells (arr 16 g) 30)
  have hk1 := Blk.new (w.alloc (.cells (arr 32 f) 29)) 30 16 g
  have hU0 := ((Below.refl w.heap.size w).alloc (Nat.le_refl _) (.cells (arr 32 f) 29)).alloc (by rw [World.size_alloc]; omega) (.cells (arr 16 g) 30)
  rw [World.size_alloc] at hk1
  have HK0 := Lib.hid hk0
  have HK1 := Lib.hid hk1
  have HU0 := Lib.hid hU0
  clear hk0 hk1 hU0
  have HF := Lib.hid (And.intro hf hg); clear hf hg
  go_enter Try.func7, Try.ntmps7
  go_upto_region 1 with (fail)
  generalize World.alloc (World.alloc w _) _ = w1 at *
  have hcv := conv_str 32 w1 ⟨w.heap.size, 0, none⟩ 32 f HF.out.1 (cells_add HK0.out)
  have hK := str_size 32 f
  generalize str 32 f = K at *
  cases long
  case' false =>
    have hx : (K.extract 16 32).size = 4 * 4 := by rw [ByteArray.size_extract, hK]; decide
    have HX := Lib.hid (fun w => new_rdy 4 (K.extract 16 32) w (Or.inl rfl) hx); clear hx
    have hk32 : (K.size : Int) = 32 := by omega
    go_upto_region 4 with (fail)
  case' true =>
    have HX := Lib.hid (fun w => new_rdy 8 K w (Or.inr rfl) hK)
    go_upto_region 4 with (fail)
  all_goals
    go_wp2_with fail
    refine (HX.out _).mono ?_
    rintro e w2 ⟨C, r, gb, cap, W, rfl, hr, hW, hr1, hbl⟩
    have hb2 := HK1.out.keep (upd_of_below (S := fun _ => False) hbl) (fun h => h)
    have hcv2 := conv_str 16 w2 ⟨w.heap.size + 1, 0, none⟩ 16 g HF.out.2 (cells_add hb2)
    have hs := str_size 16 g
    have HR := Lib.hid (And.intro hr (And.intro hW hr1))
    have HU := Lib.hid (HU0.out.trans (hbl.mono HU0.out.size))
    clear hb2 hr hW hr1 hbl
    generalize str 16 g = s at *
    have HSZ := Lib.hid hs; clear hs
    go_wp2_with fail
    refine (awake_any _).mono ?_
    rintro e w3 ⟨rfl, rfl⟩
    go_wp2_with fail
    refine (do_any C r gb cap (subT 255) (backT (subT 255) 256) W s _ HR.out.1 (subT_lt 255) HR.out.2.1 HR.out.2.2.1 HR.out.2.2.2 HSZ.out).mono ?_
    rintro e w3 ⟨rfl, hb3⟩
    have HR3 := Lib.hid (HR.out.1.below (Nat.le_refl _) hb3)
    have HU3 := Lib.hid (HU.out.trans (hb3.mono HU.out.size))
    clear hb3
    go_wp2_with fail
    refine (undo_any C r gb cap (subT 255) (backT (subT 255) 256) W _ _ HR3.out back_lt HR.out.2.1 HR.out.2.2.1 HR.out.2.2.2 (txt_size _)).mono ?_
    rw [undo_do (subT 255) (backT (subT 255) 256) W s r HSZ.out (subT_lt 255) HR.out.2.1 back_sub]
    rintro e w4 ⟨rfl, hb4⟩
    have HR4 := Lib.hid (HR3.out.below (Nat.le_refl _) hb4)
    have HU4 := Lib.hid (HU3.out.trans (hb4.mono HU3.out.size))
    clear hb4
    go_wp2_with fail
    refine (undo_any C r gb cap (subT 255) (backT (subT 255) 256) W s _ HR4.out back_lt HR.out.2.1 HR.out.2.2.1 HR.out.2.2.2 HSZ.out).mono ?_
    rintro e w5 ⟨rfl, hb5⟩
    have HR5 := Lib.hid (HR4.out.below (Nat.le_refl _) hb5)
    have HU5 := Lib.hid (HU4.out.trans (hb5.mono HU4.out.size))
    clear hb5
    go_wp2_with fail
    refine (do_any C r gb cap (subT 255) (backT (subT 255) 256) W _ _ HR5.out (subT_lt 255) HR.out.2.1 HR.out.2.2.1 HR.out.2.2.2 (txt_size _)).mono ?_
    rw [do_undo (subT 255) (backT (subT 255) 256) W s r HSZ.out back_lt HR.out.2.1 sub_back]
    rintro e w6 ⟨rfl, hb6⟩
    have HU6 := Lib.hid (HU5.out.trans (hb6.mono HU5.out.size))
    clear hb6
    go_wp2_with fail
    go_ret
    exact ⟨rfl, HU6.out⟩
end Go.Proofs.Ytlhakobfjokabaa
