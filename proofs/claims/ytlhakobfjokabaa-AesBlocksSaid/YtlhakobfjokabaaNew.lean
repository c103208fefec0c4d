/-
  The contract of New.
-/
import Derived.Test.YtlhakobfjokabaaExpand
namespace Go.Proofs.Ytlhakobfjokabaa
open Go.RowKit

theorem built49 (x : Int) : Try.prog.built 49 [(0, .int .i64 x)] = some (#[.int .i64 x, .slice none 0 0] ++ arr 256 (fun _ => 0) ++ arr 256 fun _ => 0) := by kernel_rfl
/-- A new cipher's cells. -/
def blank (x : Value) : Array Value := #[x, .slice none 0 0] ++ arr 256 (fun _ => 0) ++ arr 256 fun _ => 0
theorem blank0 (x : Value) : (blank x)[0]? = some x := by
  unfold blank
  rw [Array.append_assoc, Array.getElem?_append_left (by simp)]
  rfl
theorem blank1 (x : Value) : (blank x)[1]? = some (.slice none 0 0) := by
  unfold blank
  rw [Array.append_assoc, Array.getElem?_append_left (by simp)]
  rfl
theorem blank_size (x : Value) : (blank x).size = 514 := by simp [blank, arr_size]
theorem upd_setCells (b : Nat) : ∀ (vs : List Value) (o : Nat) (w : World), Upd (· = b) w (w.setCells b o vs)
  | [], _, w => Upd.refl _ w
  | v :: r, o, w => by
    rw [World.setCells]
    exact (upd_setCell w ⟨b, o, none⟩ v).trans (upd_setCells b r (o + 1) _)
theorem ciph_made {w : World} {C r : Nat} (S B : Nat → Nat) (h : w.heap[C]? = some (.cells (blank (.int .i64 r)) 49 (0, 0))) :
    Ciph ((w.setCells C 2 (arr 256 S).toList).setCells C 258 (arr 256 B).toList) C r (.slice none 0 0) S B ∧ Upd (· = C) w ((w.setCells C 2 (arr 256 S).toList).setCells C 258 (arr 256 B).toList) ∧
    w.there C 2 256 ∧ (w.setCells C 2 (arr 256 S).toList).there C 258 256 := by
  have hsome : ∀ j, j < 514 → (w.cell? ⟨C, j, none⟩).isSome = true := fun j hj => by
    rw [cell_of_row w C j _ 49 (0, 0) h, Array.getElem?_eq_getElem (by rw [blank_size]; exact hj)]
    rfl
  have hfr : ∀ j, w.frozen? ⟨C, j, none⟩ = false := fun j => frozen_of_row w C j _ 49 h
  have t1 : w.there C 2 256 := fun j hj => ⟨hsome _ (by omega), hfr _⟩
  have t2 : w.there C 258 256 := fun j hj => ⟨hsome _ (by omega), hfr _⟩
  have t3 := World.there_setCells t2 C 2 (arr 256 S).toList
  have l1 : (arr 256 S).toList.length = 256 := by simp [arr]
  have l2 : (arr 256 B).toList.length = 256 := by simp [arr]
  have r1 := World.rangeAt_setCells_same w C 2 (arr 256 S).toList (by rw [l1]; exact t1)
  have r2 := World.rangeAt_setCells_same (w.setCells C 2 (arr 256 S).toList) C 258 (arr 256 B).toList (by rw [l2]; exact t3)
  have r3 := World.rangeAt_setCells_apart r1 C 258 (arr 256 B).toList (by right; left; omega)
  have hout : ∀ j, j < 2 → ((w.setCells C 2 (arr 256 S).toList).setCells C 258 (arr 256 B).toList).cell? ⟨C, j, none⟩ = w.cell? ⟨C, j, none⟩ := fun j hj => by
    rw [World.cell?_setCells_out C _ 258 _ ⟨C, j, none⟩ (fun _ _ => by left; show j < 258; omega), World.cell?_setCells_out C _ 2 _ ⟨C, j, none⟩ (fun _ _ => by left; show j < 2; omega)]
  refine ⟨⟨?_, ?_, ?_, fun j hj => ?_, fun j hj => ?_⟩, (upd_setCells C _ _ _).trans (upd_setCells C _ _ _), t1, t3⟩
  · rw [hout 0 (by omega), cell_of_row w C 0 _ 49 (0, 0) h]; exact blank0 _
  · rw [hout 1 (by omega), cell_of_row w C 1 _ 49 (0, 0) h]; exact blank1 _
  · rw [World.frozen?_setCells, World.frozen?_setCells]; exact hfr 1
  · exact r3 j _ (by rw [Array.getElem?_toList, arr_at _ _ _ hj])
  · exact r2 j _ (by rw [Array.getElem?_toList, arr_at _ _ _ hj])

/-- A key's cipher, made. -/
structure Made (w w' : World) (C n : Nat) (key : ByteArray) (v : Value) : Prop where
  c : Ciph w' C (n + 6) v (subT 255) (backT (subT 255) 256)
  o : w'.ownsRow (C + 1) 55 16 v (n + 7) (arr (16 * (n + 7)) (ex (subT 255) (byt key) n (4 * (n + 7))).2).toList
  lo : w.heap.size ≤ C
  u : Below w.heap.size w w'
theorem owns_mono {w : World} {base base' e size n : Nat} {v : Value} {xs : List Value} (h : w.ownsRow base e size v n xs) (hb : base' ≤ base) : w.ownsRow base' e size v n xs := by
  refine ⟨h.1, ?_⟩
  rcases h.2 with h2 | ⟨g, cap, cur, rfl, h3, rest⟩
  · exact .inl h2
  · exact .inr ⟨g, cap, cur, rfl, Nat.le_trans hb h3, rest⟩

theorem new_bad (s : ByteArray) (w : World) (h1 : s.size ≠ 16) (h2 : s.size ≠ 32) (hm : s.size ≤ 1000) :
    Calls Try.prog 14 #[.string s] w fun e w' => e = .returned (.tuple #[.pointer none, .int .i64 1]) ∧ w = w' := by
  have e1 : ((s.size : Int) != 16) = true := by rw [bne_iff_ne]; omega
  have e2 : ((s.size : Int) != 32) = true := by rw [bne_iff_ne]; omega
  clear h1 h2
  go_enter Try.func14, Try.ntmps14
  go_wp2_with fail
  go_ret2
  exact ⟨rfl, rfl⟩
theorem blank_get (x : Int) : (Try.prog.built 49 [(0, .int .i64 x)]).isSome = true ∧ (Try.prog.built 49 [(0, .int .i64 x)]).getD #[] = blank (.int .i64 x) := by
  rw [built49]
  exact ⟨rfl, rfl⟩

set_option maxHeartbeats 1000000 in
set_option maxRecDepth 100000 in
theorem new_ok (n : Nat) (key : ByteArray) (w : World) (hn : n = 4 ∨ n = 8) (hk : key.size = 4 * n) :
    Calls Try.prog 14 #[.string key] w fun e w' => ∃ (C : Nat) (v : Value), e = .returned (.tuple #[.pointer (some ⟨C, 0, none⟩), .int .i64 0]) ∧ Made w w' C n key v := by
  have HK := Lib.hid hk
  have hm : (key.size : Int) ≤ 32 := by omega
  have hkq : (key.size : Int) / 4 = (n : Int) := by omega
  have hnw : IntKind.i64.wrap (n : Int) = (n : Int) := by rw [IntKind.wrap_i64]; omega
  have hn8 : (n : Int) ≤ 8 := by omega
  obtain ⟨S, B, hS, hT, hE⟩ : ∃ S B : Nat → Nat, (∀ j, S j < 256) ∧ (∀ w, Calls Try.prog 24 #[] w fun e w' => e = .returned (.tuple #[.agg (arr 256 S), .agg (arr 256 B)]) ∧ Below w.heap.size w w') ∧ (S = subT 255 ∧ B = backT (subT 255) 256) :=
    ⟨_, _, subT_lt 255, tables_any, rfl, rfl⟩
  have HS := Lib.hid hS; clear hS
  have HT := Lib.hid hT; clear hT
  have HE := Lib.hid hE; clear hE
  have HB := Lib.hid (fun (w : World) (x : Value) => heap_new w (.cells (blank x) 49))
  have HN := Lib.hid hn
  obtain ⟨b1, hb1⟩ : ∃ b, ((key.size : Int) != 16) = b := ⟨_, rfl⟩
  have hb2 : b1 = true → ((key.size : Int) != 32) = false := by
    intro h
    rw [bne_eq_false_iff_eq]
    rw [h, bne_iff_ne] at hb1
    omega
  have hbu := built49 ((n : Int) + 6)
  have hbg := blank_get ((n : Int) + 6)
  have hnew := Lib.hid (heap_new w (.cells (blank (.int .i64 ((n : Int) + 6))) 49))
  have hbel := Lib.hid ((Below.refl w.heap.size w).alloc (Nat.le_refl _) (.cells (blank (.int .i64 ((n : Int) + 6))) 49))
  clear hk hn
  go_enter Try.func14, Try.ntmps14
  cases b1
  case' true => have hb3 := hb2 rfl
  all_goals
    clear hb2
    have HBG := Lib.hid hbg
    clear hbg hbu
    go_upto_region 4 with (refine wpList_build rfl 49 #[(0, .tmp 16)] rfl ?hf ?_)
    case hf => exact HBG.out.1
    rw [HBG.out.2]
    have hz : w.heap.size < (w.alloc (.cells (blank (.int .i64 ((n : Int) + 6))) 49)).heap.size := by rw [World.size_alloc]; omega
    have HZ := Lib.hid hz; clear hz
    generalize World.alloc w _ = w1 at *
    go_wp2_with fail
    refine (HT.out _).mono ?_
    rintro e w2 ⟨rfl, hb2⟩
    have hn2 : w2.heap[w.heap.size]? = some (.cells (blank (.int .i64 ((n + 6 : Nat) : Int))) 49 (0, 0)) := (hb2.block _ HZ.out).trans hnew.out
    have HM := Lib.hid (ciph_made S B hn2)
    have HU2 := Lib.hid (hbel.out.trans (hb2.mono (Nat.le_of_lt HZ.out)))
    have hz2 : w.heap.size < w2.heap.size := Nat.lt_of_lt_of_le HZ.out hb2.size
    clear hb2 hn2
    have t1 := HM.out.2.2.1
    have t2 := HM.out.2.2.2
    rw [← arr_size 256 S] at t1
    have t3 : (w2.setCells w.heap.size 2 (arr 256 S).toList).there w.heap.size 258 (arr 256 B).size := by rw [arr_size]; exact t2
    have T1 := Lib.hid t1
    have T3 := Lib.hid t3
    have i1 := size16 47 i47 S
    have i2 := size16 47 i47 B
    have I := Lib.hid (And.intro i1 i2)
    clear t1 t2 t3 i1 i2
    go_upto_region 5 with (first
      | (with_reducible refine wpList_store_mid rfl 47 (.tmp 26) (.tmp 23) rfl w.heap.size 2 (arr 256 S) rfl rfl T1.out I.out.1 (arr_one _ _) ?_)
      | (with_reducible refine wpList_store_mid rfl 47 (.tmp 28) (.tmp 24) rfl w.heap.size 258 (arr 256 B) rfl rfl T3.out I.out.2 (arr_one _ _) ?_))
    simp only [Act.put]
    have HCI := Lib.hid HM.out.1
    have HUM := Lib.hid HM.out.2.1
    clear T1 T3 I HM
    generalize World.setCells (World.setCells w2 _ _ _) _ _ _ = w3 at *
    go_wp2_with fail
    refine (expand_words w.heap.size n S B key w3 HN.out HK.out HS.out HCI.out).mono ?_
    rintro e w4 ⟨rfl, v, hc4, ho4, hu4⟩
    have hz3 := HUM.out.size
    have hm4 : Made w w4 w.heap.size n key v := by
      obtain ⟨hE1, hE2⟩ := HE.out
      subst hE1 hE2
      exact ⟨hc4, owns_mono ho4 (by omega), Nat.le_refl _, (HU2.out.trans (HUM.out.below HU2.out.size (fun k e => by omega))).trans (hu4.below (Nat.le_of_lt (Nat.lt_of_lt_of_le hz2 hz3)) (fun k e => by omega))⟩
    have HM4 := Lib.hid hm4
    clear hm4 hc4 ho4 hu4
    go_wp2_with fail
    go_ret2
    exact ⟨_, v, rfl, HM4.out⟩
end Go.Proofs.Ytlhakobfjokabaa
