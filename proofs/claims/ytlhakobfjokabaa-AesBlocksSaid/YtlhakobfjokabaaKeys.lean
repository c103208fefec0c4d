/-
  The law AesKeys, walked.
-/
import Derived.Test.YtlhakobfjokabaaUndo
import Derived.Deep.QuietTactic
import Derived.BigQuiet
namespace Go.Proofs.Ytlhakobfjokabaa
open Go.RowKit

theorem Made.rdy {w w' : World} {C n : Nat} {key : ByteArray} {v : Value} (h : Made w w' C n key v) : ∃ gb cap, Rdy w' C (n + 6) gb cap (subT 255) (backT (subT 255) 256) (ex (subT 255) (byt key) n (4 * (n + 7))).2 := by
  obtain ⟨gb, cap, rfl, _, _, hcap⟩ := owns_form h.o (by omega)
  refine ⟨gb, cap, h.c, fun i hi j v hv => ?_, hcap⟩
  have hj : j < 16 := by have := (List.getElem?_eq_some_iff.1 hv).1; simpa [arr_size] using this
  rw [Array.getElem?_toList, arr_at _ _ _ hj] at hv
  have := h.o.cells (g := gb) rfl (16 * i + j) v (by rw [Array.getElem?_toList, arr_at _ _ _ (by omega)]; exact hv)
  rw [Addr.add_mid, Nat.zero_add] at this
  rw [show i * 16 + j = 16 * i + j by omega]
  exact this
theorem key_lt (key : ByteArray) (n : Nat) (j : Nat) : (ex (subT 255) (byt key) n (4 * (n + 7))).2 j < 256 := (ex_lt _ _ n (subT_lt 255) (byt_lt key) _).2 j
theorem back_lt (j : Nat) : backT (subT 255) 256 j < 256 := backT_lt _ 256 (Nat.le_refl _) j

set_option maxHeartbeats 1000000 in
set_option maxRecDepth 100000 in
theorem keys_long (key b : ByteArray) (w : World) (hk : key.size ≤ maxLen) (hb : b.size ≤ maxLen) (h : 100 < key.size ∨ 100 < b.size) :
    Calls Try.prog 8 #[.string key, .string b] w fun e w' => e = .returned (.bool true) ∧ Below w.heap.size w w' := by
  unfold maxLen at hk hb
  obtain ⟨z1, hz1⟩ : ∃ z, decide ((100 : Int) < (key.size : Int)) = z := ⟨_, rfl⟩
  obtain ⟨z2, hz2⟩ : ∃ z, decide ((100 : Int) < (b.size : Int)) = z := ⟨_, rfl⟩
  have hz : (z1 || z2) = true := by
    rw [← hz1, ← hz2]
    simp only [Bool.or_eq_true, decide_eq_true_eq]
    omega
  go_enter Try.func8, Try.ntmps8
  cases z1 <;> cases z2 <;> first | (exact absurd hz (by decide)) | skip
  all_goals
    clear hz
    go_wp2_with fail
    refine (awake_any _).mono ?_
    rintro e w1 ⟨rfl, rfl⟩
    go_wp2_with fail
    refine (awake_any _).mono ?_
    rintro e w1 ⟨rfl, rfl⟩
    go_wp2_with fail
    go_ret
    exact ⟨rfl, Below.refl _ _⟩

set_option maxHeartbeats 1000000 in
set_option maxRecDepth 100000 in
theorem keys_bad (key b : ByteArray) (w : World) (hk : key.size ≤ 100) (hb : b.size ≤ 100) (h1 : key.size ≠ 16) (h2 : key.size ≠ 32) :
    Calls Try.prog 8 #[.string key, .string b] w fun e w' => e = .returned (.bool true) ∧ Below w.heap.size w w' := by
  have z1 : decide ((100 : Int) < (key.size : Int)) = false := by rw [decide_eq_false_iff_not]; omega
  have z2 : decide ((100 : Int) < (b.size : Int)) = false := by rw [decide_eq_false_iff_not]; omega
  have e1 : ((key.size : Int) != 16) = true := by rw [bne_iff_ne]; omega
  have e2 : ((key.size : Int) != 32) = true := by rw [bne_iff_ne]; omega
  have HN := Lib.hid (And.intro h1 (And.intro h2 (show key.size ≤ 1000 by omega))); clear h1 h2
  go_enter Try.func8, Try.ntmps8
  go_wp2_with fail
  refine (awake_any _).mono ?_
  rintro e w1 ⟨rfl, rfl⟩
  go_wp2_with fail
  refine (new_bad key _ HN.out.1 HN.out.2.1 HN.out.2.2).mono ?_
  rintro e w1 ⟨rfl, rfl⟩
  go_wp2_with fail
  go_ret
  exact ⟨rfl, Below.refl _ _⟩

theorem do_len (C r gb cap m : Nat) (S B G : Nat → Nat) (s : ByteArray) (w : World) (h : Rdy w C r gb cap S B G) (hS : ∀ j, S j < 256) (hG : ∀ j, G j < 256) (hr1 : 1 ≤ r) (hr2 : r ≤ 50) (hs : s.size ≤ 100) (hm : m = if s.size = 16 then 16 else 0) :
    Calls Try.prog 16 #[.pointer (some ⟨C, 0, none⟩), .string s] w fun e w' => ∃ t : ByteArray, e = .returned (.string t) ∧ t.size = m ∧ Below w.heap.size w w' := by
  by_cases h16 : s.size = 16
  · exact (do_any C r gb cap S B G s w h hS hG hr1 hr2 h16).mono fun e w' g => ⟨_, g.1, by rw [txt_size, hm, if_pos h16], g.2⟩
  · exact (do_short C s w h16 (by omega)).mono fun e w' g => ⟨_, g.1, by rw [hm, if_neg h16]; rfl, by rw [g.2]; exact Below.refl _ _⟩
theorem undo_len (C r gb cap m : Nat) (S B G : Nat → Nat) (s : ByteArray) (w : World) (h : Rdy w C r gb cap S B G) (hB : ∀ j, B j < 256) (hG : ∀ j, G j < 256) (hr1 : 1 ≤ r) (hr2 : r ≤ 50) (hs : s.size ≤ 100) (hm : m = if s.size = 16 then 16 else 0) :
    Calls Try.prog 19 #[.pointer (some ⟨C, 0, none⟩), .string s] w fun e w' => ∃ t : ByteArray, e = .returned (.string t) ∧ t.size = m ∧ Below w.heap.size w w' := by
  by_cases h16 : s.size = 16
  · exact (undo_any C r gb cap S B G s w h hB hG hr1 hr2 h16).mono fun e w' g => ⟨_, g.1, by rw [txt_size, hm, if_pos h16], g.2⟩
  · exact (undo_short C s w h16 (by omega)).mono fun e w' g => ⟨_, g.1, by rw [hm, if_neg h16]; rfl, by rw [g.2]; exact Below.refl _ _⟩

set_option maxHeartbeats 1000000 in
set_option maxRecDepth 100000 in
theorem keys_ok (key b : ByteArray) (n : Nat) (w : World) (hk : key.size = 4 * n) (hn : n = 4 ∨ n = 8) (hb : b.size ≤ 100) :
    Calls Try.prog 8 #[.string key, .string b] w fun e w' => e = .returned (.bool true) ∧ Below w.heap.size w w' := by
  have hkb : key.size ≤ 32 := by omega
  have z1 : decide ((100 : Int) < (key.size : Int)) = false := by rw [decide_eq_false_iff_not]; omega
  have z2 : decide ((100 : Int) < (b.size : Int)) = false := by rw [decide_eq_false_iff_not]; omega
  have hkq : (key.size : Int) / 4 = (n : Int) := by omega
  have hnw : IntKind.i64.wrap (n : Int) = (n : Int) := by rw [IntKind.wrap_i64]; omega
  have hn8 : (n : Int) ≤ 8 := by omega
  obtain ⟨b1, hb1⟩ : ∃ b, ((key.size : Int) != 16) = b := ⟨_, rfl⟩
  have hb2 : b1 = true → ((key.size : Int) != 32) = false := by
    intro h
    rw [bne_eq_false_iff_eq]
    rw [h, bne_iff_ne] at hb1
    omega
  have HNW := Lib.hid (new_ok n key w hn hk)
  have hn0 : 1 ≤ n + 6 ∧ n + 6 ≤ 50 := by omega
  have HN0 := Lib.hid hn0
  clear hn hn0
  have HK := Lib.hid hk; clear hk
  have HBS := Lib.hid hb
  by_cases hbz : b.size = 16
  · have e3 : (b.size : Int) = 16 := by omega
    have e4 : ((b.size : Int) == 16) = true := by rw [beq_iff_eq]; omega
    have hm : (16 : Nat) = if b.size = 16 then 16 else 0 := by rw [if_pos hbz]
    have HM := Lib.hid hm; clear hm
    clear hbz
    go_enter Try.func8, Try.ntmps8
    cases b1
    case' true => have hb3 := hb2 rfl
    all_goals
      clear hb2
      go_wp2_with fail
      refine (awake_any _).mono ?_
      rintro e w1 ⟨rfl, rfl⟩
      go_wp2_with fail
      refine HNW.out.mono ?_
      rintro e w1 ⟨C, v, rfl, hm⟩
      obtain ⟨gb, cap, hr⟩ := hm.rdy
      have HU := Lib.hid hm.u
      have HR := Lib.hid hr
      clear hm hr
      go_wp2_with fail
      refine (rounds_any C (n + 6) _ HR.out.c.c0).mono ?_
      rintro e w2 ⟨rfl, rfl⟩
      go_wp2_with fail
      refine (do_len C (n + 6) gb cap 16 _ _ _ b _ HR.out (subT_lt 255) (key_lt key n) HN0.out.1 HN0.out.2 HBS.out HM.out).mono ?_
      rintro e w2 ⟨t, rfl, ht, hbl⟩
      have HR2 := Lib.hid (HR.out.below (Nat.le_refl _) hbl)
      have HU2 := Lib.hid (HU.out.trans (hbl.mono HU.out.size))
      clear hbl
      go_wp2_with fail
      refine (undo_len C (n + 6) gb cap 16 _ _ _ b _ HR2.out back_lt (key_lt key n) HN0.out.1 HN0.out.2 HBS.out HM.out).mono ?_
      rintro e w3 ⟨t3, rfl, ht3, hbl⟩
      have HU3 := Lib.hid (HU2.out.trans (hbl.mono HU2.out.size))
      clear hbl
      go_wp2_with fail
      go_ret
      exact ⟨rfl, HU3.out⟩
  · have e3 : ¬ (b.size : Int) = 16 := by omega
    have e4 : ((b.size : Int) == 16) = false := by rw [beq_eq_false_iff_ne]; omega
    have hm : (0 : Nat) = if b.size = 16 then 16 else 0 := by rw [if_neg hbz]
    have HM := Lib.hid hm; clear hm
    clear hbz
    go_enter Try.func8, Try.ntmps8
    cases b1
    case' true => have hb3 := hb2 rfl
    all_goals
      clear hb2
      go_wp2_with fail
      refine (awake_any _).mono ?_
      rintro e w1 ⟨rfl, rfl⟩
      go_wp2_with fail
      refine HNW.out.mono ?_
      rintro e w1 ⟨C, v, rfl, hm⟩
      obtain ⟨gb, cap, hr⟩ := hm.rdy
      have HU := Lib.hid hm.u
      have HR := Lib.hid hr
      clear hm hr
      go_wp2_with fail
      refine (rounds_any C (n + 6) _ HR.out.c.c0).mono ?_
      rintro e w2 ⟨rfl, rfl⟩
      go_wp2_with fail
      refine (do_len C (n + 6) gb cap 0 _ _ _ b _ HR.out (subT_lt 255) (key_lt key n) HN0.out.1 HN0.out.2 HBS.out HM.out).mono ?_
      rintro e w2 ⟨t, rfl, ht, hbl⟩
      have HR2 := Lib.hid (HR.out.below (Nat.le_refl _) hbl)
      have HU2 := Lib.hid (HU.out.trans (hbl.mono HU.out.size))
      clear hbl
      go_wp2_with fail
      refine (undo_len C (n + 6) gb cap 0 _ _ _ b _ HR2.out back_lt (key_lt key n) HN0.out.1 HN0.out.2 HBS.out HM.out).mono ?_
      rintro e w3 ⟨t3, rfl, ht3, hbl⟩
      have HU3 := Lib.hid (HU2.out.trans (hbl.mono HU2.out.size))
      clear hbl
      go_wp2_with fail
      go_ret
      exact ⟨rfl, HU3.out⟩
theorem law_keys (key b : ByteArray) (w : World) (hk : key.size ≤ maxLen) (hb : b.size ≤ maxLen) :
    Calls Try.prog 8 #[.string key, .string b] w fun e w' => e = .returned (.bool true) ∧ Below w.heap.size w w' := by
  by_cases h : 100 < key.size ∨ 100 < b.size
  · exact keys_long key b w hk hb h
  · by_cases h1 : key.size = 16
    · exact keys_ok key b 4 w h1 (Or.inl rfl) (by omega)
    · by_cases h2 : key.size = 32
      · exact keys_ok key b 8 w h2 (Or.inr rfl) (by omega)
      · exact keys_bad key b w (by omega) (by omega) h1 h2
end Go.Proofs.Ytlhakobfjokabaa
