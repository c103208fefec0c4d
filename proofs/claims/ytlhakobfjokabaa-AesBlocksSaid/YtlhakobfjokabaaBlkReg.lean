/-
  The region of the law AesBlocks that draws its order.
-/
import Derived.Test.YtlhakobfjokabaaRefDo
import Derived.Test.YtlhakobfjokabaaUndoes
namespace Go.Proofs.Ytlhakobfjokabaa
open Go.RowKit

noncomputable def blk8C : Code := ((Try.f6.body.bind (regionAt 8)).getD .skip)
set_option maxRecDepth 100000 in
set_option maxHeartbeats 1000000 in
theorem blk8 {x0 x1 x2 x3 x4 x6 x9 x11 x12 x13 x14 x15 x16 x17 x18 x19 x20 x21 x22 x23 x24 x25 x26 x27 x28 x29 x30 x31 x32 x33 x34 x35 x36 x37 x38 x39 x40 x41 x42 x43 x44 : Value} (C gb cap B5 B10 n : Nat) (g T B W : Nat → Nat) (key s : ByteArray) (w : World) (Q : Exit → Act → World → Prop)
    (hn : n = 4 ∨ n = 8) (hk : key.size = 4 * n) (hT : ∀ j, T j < 256) (hWd : ∀ j, W j < 256) (hW : W = (ex T (byt key) n (4 * (n + 7))).2) (hg : ∀ j, g j < 256) (hs : s = str 16 g) (hr : Rdy w C (n + 6) gb cap T B W) (hb5 : Blk w B5 30 16 g) (hb10 : Bli w B10 36 256 T)
    (hQ : ∀ (y33 y34 y35 y36 y37 y38 y39 y40 y41 y42 y43 y44 : Value) (w6 : World), Below w.heap.size w w6 → Q .normal ⟨(x0 :: x1 :: x2 :: x3 :: x4 :: .pointer (some ⟨B5, 0, none⟩) :: .bool true :: .string key :: .pointer (some ⟨C, 0, none⟩) :: x9 :: .pointer (some ⟨B10, 0, none⟩) :: x11 :: x12 :: x13 :: x14 :: x15 :: x16 :: x17 :: x18 :: x19 :: x20 :: x21 :: x22 :: x23 :: x24 :: x25 :: x26 :: x27 :: x28 :: x29 :: x30 :: x31 :: x32 :: y33 :: y34 :: y35 :: y36 :: y37 :: y38 :: y39 :: y40 :: y41 :: y42 :: y43 :: y44 :: []).toArray, []⟩ w6) :
    Code.wp Try.prog blk8C Q ⟨(x0 :: x1 :: x2 :: x3 :: x4 :: .pointer (some ⟨B5, 0, none⟩) :: x6 :: .string key :: .pointer (some ⟨C, 0, none⟩) :: x9 :: .pointer (some ⟨B10, 0, none⟩) :: x11 :: x12 :: x13 :: x14 :: x15 :: x16 :: x17 :: x18 :: x19 :: x20 :: x21 :: x22 :: x23 :: x24 :: x25 :: x26 :: x27 :: x28 :: x29 :: x30 :: x31 :: x32 :: x33 :: x34 :: x35 :: x36 :: x37 :: x38 :: x39 :: x40 :: x41 :: x42 :: x43 :: x44 :: []).toArray, []⟩ w := by
  have HQ := Lib.hid hQ; clear hQ
  have HG := Lib.hid hg; clear hg
  have HT := Lib.hid (And.intro hT hWd); clear hT hWd
  have HN := Lib.hid (And.intro hn hk); clear hn hk
  have HW := Lib.hid hW; clear hW
  have HSE := Lib.hid hs
  have HSZ := Lib.hid (show s.size = 16 from by rw [hs]; exact str_size 16 g); clear hs
  have HR := Lib.hid (hr.below (Nat.le_refl _) (below_drew (Below.refl w.heap.size w))); clear hr
  have HB := Lib.hid (And.intro hb5 hb10)
  conv => arg 2; whnf
  refine wp_region_T (S := fun w' => w'.rangeAt B5 0 (arr 16 g).toList ∧ w'.rangeAt B10 0 (ints 256 T).toList) (fun _ => false) (by kernel_rfl) ⟨(World.rangeAt_drew _ _ _ _).2 hb5.all, (World.rangeAt_drew _ _ _ _).2 hb10.all⟩ (fun hHeld => ?_)
  clear hb5 hb10
  refine wpAnyT_take (i := 0) (oi := _) (v := ?_) rfl (by kernel_rfl) (by kernel_rfl) (by kernel_rfl) (by kernel_rfl) (fun _ _ _ h => h) (Or.inl ⟨by rfl, ?_⟩) (by assumption) ?_
  rotate_left
  · intro w' hSw
    go_split_ands
    go_simp
    try rfl
  try simp only [Act.put, List.setIfInBounds_toArray, List.set_cons_zero, List.set_cons_succ, Array.toArray_toList]
  refine wpAnyT_take (i := 1) (oi := _) (v := ?_) rfl (by kernel_rfl) (by kernel_rfl) (by kernel_rfl) (by kernel_rfl) (fun _ _ _ h => h) (Or.inl ⟨by rfl, ?_⟩) (by assumption) ?_
  rotate_left
  · intro w' hSw
    go_split_ands
    go_simp
    try rfl
  try simp only [Act.put, List.setIfInBounds_toArray, List.set_cons_zero, List.set_cons_succ, Array.toArray_toList]
  refine wpAnyT_take (i := 2) (oi := _) (v := ?_) rfl (by kernel_rfl) (by kernel_rfl) (by kernel_rfl) (by kernel_rfl) (fun _ _ _ h => h) (Or.inl ⟨by rfl, ?_⟩) (by assumption) ?_
  rotate_left
  · intro w' hSw
    have hSr := Lib.hid hSw.1
    clear hSw
    have hcv := conv_str 16 w' ⟨B5, 0, none⟩ 16 g HG.out (fun j u hj => by rw [Addr.add_mid]; exact hSr.out j u hj)
    rw [← HSE.out] at hcv
    go_simp
    try rfl
  try simp only [Act.put, List.setIfInBounds_toArray, List.set_cons_zero, List.set_cons_succ, Array.toArray_toList]
  refine wpAnyT_take (i := 4) (oi := _) (v := .agg (ints 256 T).toList.toArray) rfl (by kernel_rfl) (by kernel_rfl) (by kernel_rfl) (by kernel_rfl) (fun _ _ _ h => h) ?hy4 (by assumption) ?_
  case hy4 => exact yieldsIf_load_mid (by rfl) 36 (.tmp 10) rfl B10 0 rfl (ints 256 T).toList _ (fun w h => h.2) Try.underlying36 rfl (sizeI 36 i36 _)
  try simp only [Act.put, List.setIfInBounds_toArray, List.set_cons_zero, List.set_cons_succ, Array.toArray_toList]
  refine wpAnyT_take (i := 5) (oi := _) (v := .agg (ints 256 T).toList.toArray) rfl (by kernel_rfl) (by kernel_rfl) (by kernel_rfl) (by kernel_rfl) (fun _ _ _ h => h) ?hy5 (by assumption) ?_
  case hy5 => exact yieldsIf_load_mid (by rfl) 36 (.tmp 10) rfl B10 0 rfl (ints 256 T).toList _ (fun w h => h.2) Try.underlying36 rfl (sizeI 36 i36 _)
  try simp only [Act.put, List.setIfInBounds_toArray, List.set_cons_zero, List.set_cons_succ, Array.toArray_toList]
  refine wpAnyT_take (i := 6) (oi := _) (v := ?_) rfl (by kernel_rfl) (by kernel_rfl) (by kernel_rfl) (by kernel_rfl) (fun _ _ _ h => h) (Or.inl ⟨by rfl, ?_⟩) (by assumption) ?_
  rotate_left
  · intro w' hSw
    go_split_ands
    go_simp
    try rfl
  try simp only [Act.put, List.setIfInBounds_toArray, List.set_cons_zero, List.set_cons_succ, Array.toArray_toList]
  refine wpAnyT_take (i := 8) (oi := _) (v := ?_) rfl (by kernel_rfl) (by kernel_rfl) (by kernel_rfl) (by kernel_rfl) (fun _ _ _ h => h) (Or.inl ⟨by rfl, ?_⟩) (by assumption) ?_
  rotate_left
  · intro w' hSw
    go_split_ands
    go_simp
    try rfl
  try simp only [Act.put, List.setIfInBounds_toArray, List.set_cons_zero, List.set_cons_succ, Array.toArray_toList]
  refine wpAnyT_take (i := 9) (oi := _) (v := ?_) rfl (by kernel_rfl) (by kernel_rfl) (by kernel_rfl) (by kernel_rfl) (fun _ _ _ h => h) (Or.inl ⟨by rfl, ?_⟩) (by assumption) ?_
  rotate_left
  · intro w' hSw
    have hSr := Lib.hid hSw.1
    clear hSw
    have hcv := conv_str 16 w' ⟨B5, 0, none⟩ 16 g HG.out (fun j u hj => by rw [Addr.add_mid]; exact hSr.out j u hj)
    rw [← HSE.out] at hcv
    go_simp
    try rfl
  try simp only [Act.put, List.setIfInBounds_toArray, List.set_cons_zero, List.set_cons_succ, Array.toArray_toList]
  refine wpAnyT_ready (rs := [3]) (by kernel_rfl) (by simp) ?_
  refine AllReadyT.cons (o := _) rfl (fun K hK => ?_) (by kernel_rfl) AllReadyT.nil
  go_simp
  (with_reducible refine (do_any C (n + 6) gb cap T B W s w.drew HR.out HT.out.1 HT.out.2 (by omega) (by rcases HN.out.1 with h | h <;> omega) HSZ.out).mono ?_)
  rintro e w1 ⟨rfl, hbw1⟩
  have HB0 := Lib.hid (And.intro HB.out.1.drew HB.out.2.drew)
  have HB1 := Lib.hid (And.intro (HB0.out.1.keep (upd_of_below (S := fun _ => False) hbw1) (fun h => h)) (HB0.out.2.keep (upd_of_below (S := fun _ => False) hbw1) (fun h => h)))
  have HW1 := Lib.hid (Below.trans (below_drew (Below.refl w.heap.size w)) hbw1); clear hbw1
  refine hK.out _ _ (fun _ => ⟨HB1.out.1.all, HB1.out.2.all⟩) (fun hHeld => ?_)
  clear hK K
  try simp only [Act.put, List.setIfInBounds_toArray, List.set_cons_zero, List.set_cons_succ, Array.toArray_toList]
  refine wpAnyT_ready (rs := [7]) (by kernel_rfl) (by simp) ?_
  refine AllReadyT.cons (o := _) rfl (fun K hK => ?_) (by kernel_rfl) AllReadyT.nil
  go_simp
  (with_reducible refine (words_any n T key w1 HN.out.1 HN.out.2 HT.out.1).mono ?_)
  rintro e w2 ⟨v, rfl, ho, hbw2⟩
  have HB2 := Lib.hid (And.intro (HB1.out.1.keep (upd_of_below (S := fun _ => False) hbw2) (fun h => h)) (HB1.out.2.keep (upd_of_below (S := fun _ => False) hbw2) (fun h => h)))
  have HW2 := Lib.hid (HW1.out.trans (hbw2.mono HW1.out.size)); clear hbw2
  rw [← HW.out] at ho
  obtain ⟨g2, c2, rfl, _, _, hc2⟩ := owns_form ho (by omega)
  have HO := Lib.hid (show 16 * (n + 6 + 1) ≤ c2 ∧ ∀ j, j < 16 * (n + 6 + 1) → w2.cell? ⟨g2, j, none⟩ = some (.int .i64 (W j)) from ⟨hc2, fun j hj => ints_cell ho j hj⟩)
  clear ho hc2
  refine hK.out _ _ (fun _ => ⟨HB2.out.1.all, HB2.out.2.all⟩) (fun hHeld => ?_)
  clear hK K
  try simp only [Act.put, List.setIfInBounds_toArray, List.set_cons_zero, List.set_cons_succ, Array.toArray_toList]
  refine wpAnyT_ready (rs := [10]) (by kernel_rfl) (by simp) ?_
  refine AllReadyT.cons (o := _) rfl (fun K hK => ?_) (by kernel_rfl) AllReadyT.nil
  go_simp
  (with_reducible refine (refDo_any T W g2 (n + 6) c2 s w2 HT.out.1 HT.out.2 HSZ.out (by omega) (by rcases HN.out.1 with h | h <;> omega) HO.out.1 HO.out.2).mono ?_)
  rintro e w3 ⟨rfl, hbw3⟩
  have HB3 := Lib.hid (And.intro (HB2.out.1.keep (upd_of_below (S := fun _ => False) hbw3) (fun h => h)) (HB2.out.2.keep (upd_of_below (S := fun _ => False) hbw3) (fun h => h)))
  have HW3 := Lib.hid (HW2.out.trans (hbw3.mono HW2.out.size)); clear hbw3
  refine hK.out _ _ (fun _ => ⟨HB3.out.1.all, HB3.out.2.all⟩) (fun hHeld => ?_)
  clear hK K
  try simp only [Act.put, List.setIfInBounds_toArray, List.set_cons_zero, List.set_cons_succ, Array.toArray_toList]
  refine wpAnyT_take (i := 11) (oi := _) (v := ?_) rfl (by kernel_rfl) (by kernel_rfl) (by kernel_rfl) (by kernel_rfl) (fun _ _ _ h => h) (Or.inl ⟨by rfl, ?_⟩) (by assumption) ?_
  rotate_left
  · intro w' hSw
    go_split_ands
    go_simp
    try rfl
  try simp only [Act.put, List.setIfInBounds_toArray, List.set_cons_zero, List.set_cons_succ, Array.toArray_toList]
  refine wpAnyT_take (i := 12) (oi := _) (v := ?_) rfl (by kernel_rfl) (by kernel_rfl) (by kernel_rfl) (by kernel_rfl) (fun _ _ _ h => h) (Or.inl ⟨by rfl, ?_⟩) (by assumption) ?_
  rotate_left
  · intro w' hSw
    go_split_ands
    go_simp
    try rfl
  try simp only [Act.put, List.setIfInBounds_toArray, List.set_cons_zero, List.set_cons_succ, Array.toArray_toList]
  refine wpAnyT_done (by kernel_rfl) ?_ _
  refine NoPanic.normal ?_
  exact HQ.out _ _ _ _ _ _ _ _ _ _ _ _ w3 HW3.out
end Go.Proofs.Ytlhakobfjokabaa

