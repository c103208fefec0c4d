/-
  The regions of Do and Undo that draw their order.
-/
import Derived.Test.YtlhakobfjokabaaNew
import Derived.Test.YtlhakobfjokabaaBlock
namespace Go.Proofs.Ytlhakobfjokabaa
open Go.RowKit

theorem trn_lt (b : Nat) (f : Nat → Nat) (hf : ∀ j, f j < 256) (j : Nat) : trn b f j < 256 := hf _
noncomputable def d7 : Code := ((Try.f16.body.bind (regionAt 7)).getD .skip)
set_option maxRecDepth 100000 in
set_option maxHeartbeats 1000000 in
theorem do7 {x1 x2 x3 x4 x6 x7 x8 x9 x10 x11 x12 x13 x14 x15 x16 x17 x18 x19 x20 x21 x22 x23 x24 x25 x26 x27 x28 x29 x30 x31 x32 x33 x34 x35 x36 x37 x38 x39 x40 x41 x42 x43 x44 x45 x46 x47 x48 x49 x50 x51 x52 : Value} (C W5 : Nat) (f T : Nat → Nat) (w : World) (Q : Exit → Act → World → Prop) (hf : ∀ j, f j < 256) (hT : ∀ j, j < 256 → w.cell? ⟨C, 2 + j, none⟩ = some (.int .u8 (T j))) (hb : Blk w W5 55 16 f)
    (hQ : ∀ (y27 y28 y29 y30 y31 y32 : Value) (w6 : World), Below w.heap.size w w6 → Q .normal ⟨(.pointer (some ⟨C, 0, none⟩) :: x1 :: x2 :: x3 :: x4 :: .pointer (some ⟨W5, 0, none⟩) :: x6 :: x7 :: x8 :: x9 :: x10 :: x11 :: x12 :: x13 :: x14 :: x15 :: x16 :: x17 :: x18 :: x19 :: x20 :: x21 :: x22 :: x23 :: x24 :: x25 :: x26 :: y27 :: y28 :: y29 :: y30 :: y31 :: y32 :: x33 :: x34 :: x35 :: x36 :: x37 :: x38 :: x39 :: x40 :: x41 :: x42 :: x43 :: x44 :: x45 :: x46 :: x47 :: x48 :: x49 :: x50 :: x51 :: x52 :: []).toArray, []⟩ (w6.setRow W5 (arr 16 (trn 1 fun j => T (f j))))) :
    Code.wp Try.prog d7 Q ⟨(.pointer (some ⟨C, 0, none⟩) :: x1 :: x2 :: x3 :: x4 :: .pointer (some ⟨W5, 0, none⟩) :: x6 :: x7 :: x8 :: x9 :: x10 :: x11 :: x12 :: x13 :: x14 :: x15 :: x16 :: x17 :: x18 :: x19 :: x20 :: x21 :: x22 :: x23 :: x24 :: x25 :: x26 :: x27 :: x28 :: x29 :: x30 :: x31 :: x32 :: x33 :: x34 :: x35 :: x36 :: x37 :: x38 :: x39 :: x40 :: x41 :: x42 :: x43 :: x44 :: x45 :: x46 :: x47 :: x48 :: x49 :: x50 :: x51 :: x52 :: []).toArray, []⟩ w := by
  have HQ := Lib.hid hQ; clear hQ
  have HT := Lib.hid (show ∀ j, j < 256 → w.drew.cell? ⟨C, 2 + j, none⟩ = some (.int .u8 (T j)) from hT); clear hT
  have HF := Lib.hid hf; clear hf
  have HB := Lib.hid hb
  conv => arg 2; whnf
  refine wp_region_T (S := fun w' => w'.rangeAt W5 0 (arr 16 f).toList) (fun j => j == 6) (by kernel_rfl) ((World.rangeAt_drew _ _ _ _).2 hb.all) (fun hHeld => ?_)
  clear hb
  refine wpAnyT_take (i := 0) (oi := _) (v := _) rfl (by kernel_rfl) (by kernel_rfl) (by kernel_rfl) (by kernel_rfl) (fun _ _ _ h => h) (yieldsIf_load_mid (by rfl) 55 (.tmp 5) rfl W5 (0) rfl (arr 16 f).toList _ (fun w h => h) Try.underlying55 rfl (size16 55 i55 _)) (by assumption) ?_
  try simp only [Act.put, List.setIfInBounds_toArray, List.set_cons_zero, List.set_cons_succ, Array.toArray_toList]
  refine wpAnyT_take (i := 1) (oi := _) (v := ?_) rfl (by kernel_rfl) (by kernel_rfl) (by kernel_rfl) (by kernel_rfl) (fun _ _ _ h => h) (Or.inl ⟨by rfl, ?_⟩) (by assumption) ?_
  rotate_left
  · intro w' hSw
    go_split_ands
    go_simp
    try rfl
  try simp only [Act.put, List.setIfInBounds_toArray, List.set_cons_zero, List.set_cons_succ, Array.toArray_toList]
  refine wpAnyT_take (i := 2) (oi := _) (v := ?_) rfl (by kernel_rfl) (by kernel_rfl) (by kernel_rfl) (by kernel_rfl) (fun _ _ _ h => h) (Or.inl ⟨by rfl, ?_⟩) (by assumption) ?_
  rotate_left
  · intro w' hSw
    go_split_ands
    go_simp
    try rfl
  try simp only [Act.put, List.setIfInBounds_toArray, List.set_cons_zero, List.set_cons_succ, Array.toArray_toList]
  refine wpAnyT_take (i := 3) (oi := _) (v := ?_) rfl (by kernel_rfl) (by kernel_rfl) (by kernel_rfl) (by kernel_rfl) (fun _ _ _ h => h) (Or.inl ⟨by rfl, ?_⟩) (by assumption) ?_
  rotate_left
  · intro w' hSw
    go_split_ands
    go_simp
    try rfl
  try simp only [Act.put, List.setIfInBounds_toArray, List.set_cons_zero, List.set_cons_succ, Array.toArray_toList]
  refine wpAnyT_ready (rs := [4]) (by kernel_rfl) (by simp) ?_
  refine AllReadyT.cons (o := _) rfl (fun K hK => ?_) (by kernel_rfl) AllReadyT.nil
  go_simp
  (with_reducible refine (through_any f T C 2 w.drew HF.out (fun j hj => HT.out j hj)).mono ?_)
  rintro e w1 ⟨rfl, hbw1⟩
  have HB1 := Lib.hid (HB.out.drew.keep (upd_of_below (S := fun _ => False) hbw1) (fun h => h))
  have HW1 := Lib.hid hbw1; clear hbw1
  refine hK.out _ _ (fun _ => HB1.out.all) (fun hHeld => ?_)
  clear hK K
  try simp only [Act.put, List.setIfInBounds_toArray, List.set_cons_zero, List.set_cons_succ, Array.toArray_toList]
  refine wpAnyT_ready (rs := [5]) (by kernel_rfl) (by simp) ?_
  refine AllReadyT.cons (o := _) rfl (fun K hK => ?_) (by kernel_rfl) AllReadyT.nil
  go_simp
  (with_reducible refine (turn1_any (fun j => T (f j)) _).mono ?_)
  rintro e w2 ⟨rfl, hbw2⟩
  have HB2 := Lib.hid (HB1.out.keep (upd_of_below (S := fun _ => False) hbw2) (fun h => h))
  have HW2 := Lib.hid hbw2; clear hbw2
  refine hK.out _ _ (fun _ => HB2.out.all) (fun hHeld => ?_)
  clear hK K
  try simp only [Act.put, List.setIfInBounds_toArray, List.set_cons_zero, List.set_cons_succ, Array.toArray_toList]
  refine wpAnyT_ready (rs := [6]) (by kernel_rfl) (by simp) ?_
  refine AllReadyT.last (o := _) rfl (fun K hK => ?_) (by kernel_rfl)
  rw [if_pos (by rfl)]
  refine wp_store_row 55 (.tmp 5) (.tmp 32) rfl W5 (arr 16 (trn 1 fun j => T (f j))) rfl rfl 55 _ HB2.out (size16 55 i55 _) (by rw [arr_size, arr_size]) (arr_one _ _) ?_
  refine hK.out _ _ ?_
  clear hK K
  try simp only [Act.put]
  refine wpAnyT_done (by kernel_rfl) ?_ _
  refine NoPanic.normal ?_
  exact HQ.out _ _ _ _ _ _ w2 ((((below_drew (Below.refl w.heap.size w)).trans HW1.out)).trans (HW2.out.mono HW1.out.size))
theorem range_upd {S : Nat → Prop} {w w' : World} (hu : Upd S w w') {b o : Nat} {cs : List Value} (h : w.rangeAt b o cs) (hn : ¬ S b) : w'.rangeAt b o cs := fun j u hj => hu.cell (h j u hj) hn
noncomputable def do10C : Code := ((Try.f16.body.bind (regionAt 10)).getD .skip)
set_option maxRecDepth 100000 in
set_option maxHeartbeats 1000000 in
theorem do10 {x1 x2 x3 x4 x7 x8 x9 x10 x11 x12 x13 x14 x15 x16 x17 x18 x19 x20 x21 x22 x23 x24 x25 x26 x27 x28 x29 x30 x31 x32 x33 x34 x35 x36 x37 x38 x39 x40 x41 x42 x43 x44 x45 x46 x47 x48 x49 x50 x51 x52 : Value} (C W5 gb m cap i : Nat) (z : Int) (f F : Nat → Nat) (w : World) (Q : Exit → Act → World → Prop) (hz : z = ((i : Nat) : Int)) (him : i < m) (hm : m ≤ 100) (hmc : m ≤ cap) (hf : ∀ j, f j < 256) (hF : ∀ j, F j < 256) (hc : w.cell? ⟨C, 1, none⟩ = some (.slice (some ⟨gb, 0, none⟩) m cap)) (hr : w.rangeAt gb (i * 16) (arr 16 F).toList) (hb : Blk w W5 55 16 f)
    (hQ : ∀ (y42 y43 y44 y45 y46 y47 y48 y49 y50 : Value) (w6 : World), Below w.heap.size w w6 → Q .normal ⟨(.pointer (some ⟨C, 0, none⟩) :: x1 :: x2 :: x3 :: x4 :: .pointer (some ⟨W5, 0, none⟩) :: .int .i64 z :: x7 :: x8 :: x9 :: x10 :: x11 :: x12 :: x13 :: x14 :: x15 :: x16 :: x17 :: x18 :: x19 :: x20 :: x21 :: x22 :: x23 :: x24 :: x25 :: x26 :: x27 :: x28 :: x29 :: x30 :: x31 :: x32 :: x33 :: x34 :: x35 :: x36 :: x37 :: x38 :: x39 :: x40 :: x41 :: y42 :: y43 :: y44 :: y45 :: y46 :: y47 :: y48 :: y49 :: y50 :: x51 :: x52 :: []).toArray, []⟩ (w6.setRow W5 (arr 16 fun j => f j ^^^ F j))) :
    Code.wp Try.prog do10C Q ⟨(.pointer (some ⟨C, 0, none⟩) :: x1 :: x2 :: x3 :: x4 :: .pointer (some ⟨W5, 0, none⟩) :: .int .i64 z :: x7 :: x8 :: x9 :: x10 :: x11 :: x12 :: x13 :: x14 :: x15 :: x16 :: x17 :: x18 :: x19 :: x20 :: x21 :: x22 :: x23 :: x24 :: x25 :: x26 :: x27 :: x28 :: x29 :: x30 :: x31 :: x32 :: x33 :: x34 :: x35 :: x36 :: x37 :: x38 :: x39 :: x40 :: x41 :: x42 :: x43 :: x44 :: x45 :: x46 :: x47 :: x48 :: x49 :: x50 :: x51 :: x52 :: []).toArray, []⟩ w := by
  have HQ := Lib.hid hQ; clear hQ
  subst hz
  have HF := Lib.hid (And.intro hf hF); clear hf hF
  have HB := Lib.hid hb
  have HC := Lib.hid hc
  have HR := Lib.hid hr
  have i1 : (i : Int) < (m : Int) := by omega
  conv => arg 2; whnf
  refine wp_region_T (S := fun w' => w'.rangeAt W5 0 (arr 16 f).toList ∧ w'.cell? ⟨C, 1, none⟩ = some (.slice (some ⟨gb, 0, none⟩) m cap) ∧ w'.rangeAt gb (i * 16) (arr 16 F).toList) (fun j => j == 9) (by kernel_rfl) ⟨(World.rangeAt_drew _ _ _ _).2 hb.all, hc, (World.rangeAt_drew _ _ _ _).2 hr⟩ (fun hHeld => ?_)
  clear hb hc hr
  refine wpAnyT_take (i := 0) (oi := _) (v := .agg (arr 16 f).toList.toArray) rfl (by kernel_rfl) (by kernel_rfl) (by kernel_rfl) (by kernel_rfl) (fun _ _ _ h => h) ?hy0 (by assumption) ?_
  case hy0 => exact yieldsIf_load_mid (by rfl) 55 (.tmp 5) rfl W5 (0) rfl (arr 16 f).toList _ (fun w h => h.1) Try.underlying55 rfl (size16 55 i55 _)
  try simp only [Act.put, List.setIfInBounds_toArray, List.set_cons_zero, List.set_cons_succ, Array.toArray_toList]
  refine wpAnyT_take (i := 1) (oi := _) (v := ?_) rfl (by kernel_rfl) (by kernel_rfl) (by kernel_rfl) (by kernel_rfl) (fun _ _ _ h => h) (Or.inl ⟨by rfl, ?_⟩) (by assumption) ?_
  rotate_left
  · intro w' hSw
    go_split_ands
    go_simp
    try rfl
  try simp only [Act.put, List.setIfInBounds_toArray, List.set_cons_zero, List.set_cons_succ, Array.toArray_toList]
  refine wpAnyT_take (i := 2) (oi := _) (v := ?_) rfl (by kernel_rfl) (by kernel_rfl) (by kernel_rfl) (by kernel_rfl) (fun _ _ _ h => h) (Or.inl ⟨by rfl, ?_⟩) (by assumption) ?_
  rotate_left
  · intro w' hSw
    go_split_ands
    go_simp
    try rfl
  try simp only [Act.put, List.setIfInBounds_toArray, List.set_cons_zero, List.set_cons_succ, Array.toArray_toList]
  refine wpAnyT_take (i := 3) (oi := _) (v := ?_) rfl (by kernel_rfl) (by kernel_rfl) (by kernel_rfl) (by kernel_rfl) (fun _ _ _ h => h) (Or.inl ⟨by rfl, ?_⟩) (by assumption) ?_
  rotate_left
  · intro w' hSw
    go_split_ands
    go_simp
    try rfl
  try simp only [Act.put, List.setIfInBounds_toArray, List.set_cons_zero, List.set_cons_succ, Array.toArray_toList]
  refine wpAnyT_take (i := 4) (oi := _) (v := ?_) rfl (by kernel_rfl) (by kernel_rfl) (by kernel_rfl) (by kernel_rfl) (fun _ _ _ h => h) (Or.inl ⟨by rfl, ?_⟩) (by assumption) ?_
  rotate_left
  · intro w' hSw
    go_split_ands
    go_simp
    try rfl
  try simp only [Act.put, List.setIfInBounds_toArray, List.set_cons_zero, List.set_cons_succ, Array.toArray_toList]
  refine wpAnyT_take (i := 5) (oi := _) (v := ?_) rfl (by kernel_rfl) (by kernel_rfl) (by kernel_rfl) (by kernel_rfl) (fun _ _ _ h => h) (Or.inl ⟨by rfl, ?_⟩) (by assumption) ?_
  rotate_left
  · intro w' hSw
    go_split_ands
    go_simp
    try rfl
  try simp only [Act.put, List.setIfInBounds_toArray, List.set_cons_zero, List.set_cons_succ, Array.toArray_toList]
  refine wpAnyT_take (i := 6) (oi := _) (v := ?_) rfl (by kernel_rfl) (by kernel_rfl) (by kernel_rfl) (by kernel_rfl) (fun _ _ _ h => h) (Or.inl ⟨by rfl, ?_⟩) (by assumption) ?_
  rotate_left
  · intro w' hSw
    go_split_ands
    go_simp
    try rfl
  try simp only [Act.put, List.setIfInBounds_toArray, List.set_cons_zero, List.set_cons_succ, Array.toArray_toList]
  refine wpAnyT_take (i := 7) (oi := _) (v := .agg (arr 16 F).toList.toArray) rfl (by kernel_rfl) (by kernel_rfl) (by kernel_rfl) (by kernel_rfl) (fun _ _ _ h => h) ?hy7 (by assumption) ?_
  case hy7 => exact yieldsIf_load_mid (by rfl) 55 (.tmp 48) rfl gb (i * 16) rfl (arr 16 F).toList _ (fun w h => h.2.2) Try.underlying55 rfl (size16 55 i55 _)
  try simp only [Act.put, List.setIfInBounds_toArray, List.set_cons_zero, List.set_cons_succ, Array.toArray_toList]
  refine wpAnyT_ready (rs := [8]) (by kernel_rfl) (by simp) ?_
  refine AllReadyT.cons (o := _) rfl (fun K hK => ?_) (by kernel_rfl) AllReadyT.nil
  go_simp
  (with_reducible refine (add_any f F w.drew HF.out.1 HF.out.2).mono ?_)
  rintro e w1 ⟨rfl, hbw1⟩
  have HB1 := Lib.hid (HB.out.drew.keep (upd_of_below (S := fun _ => False) hbw1) (fun h => h))
  have HS1 := Lib.hid (And.intro ((upd_of_below (S := fun _ => False) hbw1).cell (show w.drew.cell? ⟨C, 1, none⟩ = _ from HC.out) (fun h => h)) (range_upd (upd_of_below (S := fun _ => False) hbw1) ((World.rangeAt_drew _ _ _ _).2 HR.out) (fun h => h)))
  have HW1 := Lib.hid hbw1; clear hbw1
  refine hK.out _ _ (fun _ => ⟨HB1.out.all, HS1.out⟩) (fun hHeld => ?_)
  clear hK K
  try simp only [Act.put, List.setIfInBounds_toArray, List.set_cons_zero, List.set_cons_succ, Array.toArray_toList]
  refine wpAnyT_ready (rs := [9]) (by kernel_rfl) (by simp) ?_
  refine AllReadyT.last (o := _) rfl (fun K hK => ?_) (by kernel_rfl)
  rw [if_pos (by rfl)]
  refine wp_store_row 55 (.tmp 5) (.tmp 50) rfl W5 (arr 16 (fun j => f j ^^^ F j)) rfl rfl 55 _ HB1.out (size16 55 i55 _) (by rw [arr_size, arr_size]) (arr_one _ _) ?_
  refine hK.out _ _ ?_
  clear hK K
  try simp only [Act.put]
  refine wpAnyT_done (by kernel_rfl) ?_ _
  refine NoPanic.normal ?_
  exact HQ.out _ _ _ _ _ _ _ _ _ w1 ((below_drew (Below.refl w.heap.size w)).trans HW1.out)
noncomputable def un7C : Code := ((Try.f19.body.bind (regionAt 7)).getD .skip)
set_option maxRecDepth 100000 in
set_option maxHeartbeats 1000000 in
theorem un7 {x1 x2 x3 x4 x7 x8 x9 x10 x11 x12 x13 x14 x15 x16 x17 x18 x19 x20 x21 x22 x23 x24 x25 x26 x27 x28 x29 x30 x31 x32 x33 x34 x35 x36 x37 x38 x39 x40 x41 x42 x43 x44 x45 x46 x47 x48 x49 x50 x51 x52 : Value} (C W5 gb m cap i : Nat) (z : Int) (f F : Nat → Nat) (w : World) (Q : Exit → Act → World → Prop) (hz : z = ((i : Nat) : Int)) (him : i < m) (hm : m ≤ 100) (hmc : m ≤ cap) (hf : ∀ j, f j < 256) (hF : ∀ j, F j < 256) (hc : w.cell? ⟨C, 1, none⟩ = some (.slice (some ⟨gb, 0, none⟩) m cap)) (hr : w.rangeAt gb (i * 16) (arr 16 F).toList) (hb : Blk w W5 55 16 f)
    (hQ : ∀ (y20 y21 y22 y23 y24 y25 y26 y27 y28 : Value) (w6 : World), Below w.heap.size w w6 → Q .normal ⟨(.pointer (some ⟨C, 0, none⟩) :: x1 :: x2 :: x3 :: x4 :: .pointer (some ⟨W5, 0, none⟩) :: .int .i64 z :: x7 :: x8 :: x9 :: x10 :: x11 :: x12 :: x13 :: x14 :: x15 :: x16 :: x17 :: x18 :: x19 :: y20 :: y21 :: y22 :: y23 :: y24 :: y25 :: y26 :: y27 :: y28 :: x29 :: x30 :: x31 :: x32 :: x33 :: x34 :: x35 :: x36 :: x37 :: x38 :: x39 :: x40 :: x41 :: x42 :: x43 :: x44 :: x45 :: x46 :: x47 :: x48 :: x49 :: x50 :: x51 :: x52 :: []).toArray, []⟩ (w6.setRow W5 (arr 16 fun j => f j ^^^ F j))) :
    Code.wp Try.prog un7C Q ⟨(.pointer (some ⟨C, 0, none⟩) :: x1 :: x2 :: x3 :: x4 :: .pointer (some ⟨W5, 0, none⟩) :: .int .i64 z :: x7 :: x8 :: x9 :: x10 :: x11 :: x12 :: x13 :: x14 :: x15 :: x16 :: x17 :: x18 :: x19 :: x20 :: x21 :: x22 :: x23 :: x24 :: x25 :: x26 :: x27 :: x28 :: x29 :: x30 :: x31 :: x32 :: x33 :: x34 :: x35 :: x36 :: x37 :: x38 :: x39 :: x40 :: x41 :: x42 :: x43 :: x44 :: x45 :: x46 :: x47 :: x48 :: x49 :: x50 :: x51 :: x52 :: []).toArray, []⟩ w := by
  have HQ := Lib.hid hQ; clear hQ
  subst hz
  have HF := Lib.hid (And.intro hf hF); clear hf hF
  have HB := Lib.hid hb
  have HC := Lib.hid hc
  have HR := Lib.hid hr
  have i1 : (i : Int) < (m : Int) := by omega
  conv => arg 2; whnf
  refine wp_region_T (S := fun w' => w'.rangeAt W5 0 (arr 16 f).toList ∧ w'.cell? ⟨C, 1, none⟩ = some (.slice (some ⟨gb, 0, none⟩) m cap) ∧ w'.rangeAt gb (i * 16) (arr 16 F).toList) (fun j => j == 9) (by kernel_rfl) ⟨(World.rangeAt_drew _ _ _ _).2 hb.all, hc, (World.rangeAt_drew _ _ _ _).2 hr⟩ (fun hHeld => ?_)
  clear hb hc hr
  refine wpAnyT_take (i := 0) (oi := _) (v := .agg (arr 16 f).toList.toArray) rfl (by kernel_rfl) (by kernel_rfl) (by kernel_rfl) (by kernel_rfl) (fun _ _ _ h => h) ?hy0 (by assumption) ?_
  case hy0 => exact yieldsIf_load_mid (by rfl) 55 (.tmp 5) rfl W5 (0) rfl (arr 16 f).toList _ (fun w h => h.1) Try.underlying55 rfl (size16 55 i55 _)
  try simp only [Act.put, List.setIfInBounds_toArray, List.set_cons_zero, List.set_cons_succ, Array.toArray_toList]
  refine wpAnyT_take (i := 1) (oi := _) (v := ?_) rfl (by kernel_rfl) (by kernel_rfl) (by kernel_rfl) (by kernel_rfl) (fun _ _ _ h => h) (Or.inl ⟨by rfl, ?_⟩) (by assumption) ?_
  rotate_left
  · intro w' hSw
    go_split_ands
    go_simp
    try rfl
  try simp only [Act.put, List.setIfInBounds_toArray, List.set_cons_zero, List.set_cons_succ, Array.toArray_toList]
  refine wpAnyT_take (i := 2) (oi := _) (v := ?_) rfl (by kernel_rfl) (by kernel_rfl) (by kernel_rfl) (by kernel_rfl) (fun _ _ _ h => h) (Or.inl ⟨by rfl, ?_⟩) (by assumption) ?_
  rotate_left
  · intro w' hSw
    go_split_ands
    go_simp
    try rfl
  try simp only [Act.put, List.setIfInBounds_toArray, List.set_cons_zero, List.set_cons_succ, Array.toArray_toList]
  refine wpAnyT_take (i := 3) (oi := _) (v := ?_) rfl (by kernel_rfl) (by kernel_rfl) (by kernel_rfl) (by kernel_rfl) (fun _ _ _ h => h) (Or.inl ⟨by rfl, ?_⟩) (by assumption) ?_
  rotate_left
  · intro w' hSw
    go_split_ands
    go_simp
    try rfl
  try simp only [Act.put, List.setIfInBounds_toArray, List.set_cons_zero, List.set_cons_succ, Array.toArray_toList]
  refine wpAnyT_take (i := 4) (oi := _) (v := ?_) rfl (by kernel_rfl) (by kernel_rfl) (by kernel_rfl) (by kernel_rfl) (fun _ _ _ h => h) (Or.inl ⟨by rfl, ?_⟩) (by assumption) ?_
  rotate_left
  · intro w' hSw
    go_split_ands
    go_simp
    try rfl
  try simp only [Act.put, List.setIfInBounds_toArray, List.set_cons_zero, List.set_cons_succ, Array.toArray_toList]
  refine wpAnyT_take (i := 5) (oi := _) (v := ?_) rfl (by kernel_rfl) (by kernel_rfl) (by kernel_rfl) (by kernel_rfl) (fun _ _ _ h => h) (Or.inl ⟨by rfl, ?_⟩) (by assumption) ?_
  rotate_left
  · intro w' hSw
    go_split_ands
    go_simp
    try rfl
  try simp only [Act.put, List.setIfInBounds_toArray, List.set_cons_zero, List.set_cons_succ, Array.toArray_toList]
  refine wpAnyT_take (i := 6) (oi := _) (v := ?_) rfl (by kernel_rfl) (by kernel_rfl) (by kernel_rfl) (by kernel_rfl) (fun _ _ _ h => h) (Or.inl ⟨by rfl, ?_⟩) (by assumption) ?_
  rotate_left
  · intro w' hSw
    go_split_ands
    go_simp
    try rfl
  try simp only [Act.put, List.setIfInBounds_toArray, List.set_cons_zero, List.set_cons_succ, Array.toArray_toList]
  refine wpAnyT_take (i := 7) (oi := _) (v := .agg (arr 16 F).toList.toArray) rfl (by kernel_rfl) (by kernel_rfl) (by kernel_rfl) (by kernel_rfl) (fun _ _ _ h => h) ?hy7 (by assumption) ?_
  case hy7 => exact yieldsIf_load_mid (by rfl) 55 (.tmp 26) rfl gb (i * 16) rfl (arr 16 F).toList _ (fun w h => h.2.2) Try.underlying55 rfl (size16 55 i55 _)
  try simp only [Act.put, List.setIfInBounds_toArray, List.set_cons_zero, List.set_cons_succ, Array.toArray_toList]
  refine wpAnyT_ready (rs := [8]) (by kernel_rfl) (by simp) ?_
  refine AllReadyT.cons (o := _) rfl (fun K hK => ?_) (by kernel_rfl) AllReadyT.nil
  go_simp
  (with_reducible refine (add_any f F w.drew HF.out.1 HF.out.2).mono ?_)
  rintro e w1 ⟨rfl, hbw1⟩
  have HB1 := Lib.hid (HB.out.drew.keep (upd_of_below (S := fun _ => False) hbw1) (fun h => h))
  have HS1 := Lib.hid (And.intro ((upd_of_below (S := fun _ => False) hbw1).cell (show w.drew.cell? ⟨C, 1, none⟩ = _ from HC.out) (fun h => h)) (range_upd (upd_of_below (S := fun _ => False) hbw1) ((World.rangeAt_drew _ _ _ _).2 HR.out) (fun h => h)))
  have HW1 := Lib.hid hbw1; clear hbw1
  refine hK.out _ _ (fun _ => ⟨HB1.out.all, HS1.out⟩) (fun hHeld => ?_)
  clear hK K
  try simp only [Act.put, List.setIfInBounds_toArray, List.set_cons_zero, List.set_cons_succ, Array.toArray_toList]
  refine wpAnyT_ready (rs := [9]) (by kernel_rfl) (by simp) ?_
  refine AllReadyT.last (o := _) rfl (fun K hK => ?_) (by kernel_rfl)
  rw [if_pos (by rfl)]
  refine wp_store_row 55 (.tmp 5) (.tmp 28) rfl W5 (arr 16 (fun j => f j ^^^ F j)) rfl rfl 55 _ HB1.out (size16 55 i55 _) (by rw [arr_size, arr_size]) (arr_one _ _) ?_
  refine hK.out _ _ ?_
  clear hK K
  try simp only [Act.put]
  refine wpAnyT_done (by kernel_rfl) ?_ _
  refine NoPanic.normal ?_
  exact HQ.out _ _ _ _ _ _ _ _ _ w1 ((below_drew (Below.refl w.heap.size w)).trans HW1.out)
noncomputable def un10C : Code := ((Try.f19.body.bind (regionAt 10)).getD .skip)
set_option maxRecDepth 100000 in
set_option maxHeartbeats 1000000 in
theorem un10 {x1 x2 x3 x4 x6 x7 x8 x9 x10 x11 x12 x13 x14 x15 x16 x17 x18 x19 x20 x21 x22 x23 x24 x25 x26 x27 x28 x29 x30 x31 x32 x33 x34 x35 x36 x37 x38 x39 x40 x41 x42 x43 x44 x45 x46 x47 x48 x49 x50 x51 x52 : Value} (C W5 : Nat) (f T : Nat → Nat) (w : World) (Q : Exit → Act → World → Prop) (hf : ∀ j, f j < 256) (hT : ∀ j, j < 256 → w.cell? ⟨C, 258 + j, none⟩ = some (.int .u8 (T j))) (hb : Blk w W5 55 16 f)
    (hQ : ∀ (y38 y39 y40 y41 y42 y43 : Value) (w6 : World), Below w.heap.size w w6 → Q .normal ⟨(.pointer (some ⟨C, 0, none⟩) :: x1 :: x2 :: x3 :: x4 :: .pointer (some ⟨W5, 0, none⟩) :: x6 :: x7 :: x8 :: x9 :: x10 :: x11 :: x12 :: x13 :: x14 :: x15 :: x16 :: x17 :: x18 :: x19 :: x20 :: x21 :: x22 :: x23 :: x24 :: x25 :: x26 :: x27 :: x28 :: x29 :: x30 :: x31 :: x32 :: x33 :: x34 :: x35 :: x36 :: x37 :: y38 :: y39 :: y40 :: y41 :: y42 :: y43 :: x44 :: x45 :: x46 :: x47 :: x48 :: x49 :: x50 :: x51 :: x52 :: []).toArray, []⟩ (w6.setRow W5 (arr 16 fun j => T (trn 3 f j)))) :
    Code.wp Try.prog un10C Q ⟨(.pointer (some ⟨C, 0, none⟩) :: x1 :: x2 :: x3 :: x4 :: .pointer (some ⟨W5, 0, none⟩) :: x6 :: x7 :: x8 :: x9 :: x10 :: x11 :: x12 :: x13 :: x14 :: x15 :: x16 :: x17 :: x18 :: x19 :: x20 :: x21 :: x22 :: x23 :: x24 :: x25 :: x26 :: x27 :: x28 :: x29 :: x30 :: x31 :: x32 :: x33 :: x34 :: x35 :: x36 :: x37 :: x38 :: x39 :: x40 :: x41 :: x42 :: x43 :: x44 :: x45 :: x46 :: x47 :: x48 :: x49 :: x50 :: x51 :: x52 :: []).toArray, []⟩ w := by
  have HQ := Lib.hid hQ; clear hQ
  have HT := Lib.hid (show ∀ j, j < 256 → w.drew.cell? ⟨C, 258 + j, none⟩ = some (.int .u8 (T j)) from hT); clear hT
  have HF := Lib.hid hf; clear hf
  have HB := Lib.hid hb
  conv => arg 2; whnf
  refine wp_region_T (S := fun w' => w'.rangeAt W5 0 (arr 16 f).toList) (fun j => j == 6) (by kernel_rfl) ((World.rangeAt_drew _ _ _ _).2 hb.all) (fun hHeld => ?_)
  clear hb
  refine wpAnyT_take (i := 0) (oi := _) (v := _) rfl (by kernel_rfl) (by kernel_rfl) (by kernel_rfl) (by kernel_rfl) (fun _ _ _ h => h) (yieldsIf_load_mid (by rfl) 55 (.tmp 5) rfl W5 (0) rfl (arr 16 f).toList _ (fun w h => h) Try.underlying55 rfl (size16 55 i55 _)) (by assumption) ?_
  try simp only [Act.put, List.setIfInBounds_toArray, List.set_cons_zero, List.set_cons_succ, Array.toArray_toList]
  refine wpAnyT_take (i := 2) (oi := _) (v := ?_) rfl (by kernel_rfl) (by kernel_rfl) (by kernel_rfl) (by kernel_rfl) (fun _ _ _ h => h) (Or.inl ⟨by rfl, ?_⟩) (by assumption) ?_
  rotate_left
  · intro w' hSw
    go_split_ands
    go_simp
    try rfl
  try simp only [Act.put, List.setIfInBounds_toArray, List.set_cons_zero, List.set_cons_succ, Array.toArray_toList]
  refine wpAnyT_take (i := 3) (oi := _) (v := ?_) rfl (by kernel_rfl) (by kernel_rfl) (by kernel_rfl) (by kernel_rfl) (fun _ _ _ h => h) (Or.inl ⟨by rfl, ?_⟩) (by assumption) ?_
  rotate_left
  · intro w' hSw
    go_split_ands
    go_simp
    try rfl
  try simp only [Act.put, List.setIfInBounds_toArray, List.set_cons_zero, List.set_cons_succ, Array.toArray_toList]
  refine wpAnyT_take (i := 4) (oi := _) (v := ?_) rfl (by kernel_rfl) (by kernel_rfl) (by kernel_rfl) (by kernel_rfl) (fun _ _ _ h => h) (Or.inl ⟨by rfl, ?_⟩) (by assumption) ?_
  rotate_left
  · intro w' hSw
    go_split_ands
    go_simp
    try rfl
  try simp only [Act.put, List.setIfInBounds_toArray, List.set_cons_zero, List.set_cons_succ, Array.toArray_toList]
  refine wpAnyT_ready (rs := [1]) (by kernel_rfl) (by simp) ?_
  refine AllReadyT.cons (o := _) rfl (fun K hK => ?_) (by kernel_rfl) AllReadyT.nil
  go_simp
  (with_reducible refine (turn3_any f w.drew).mono ?_)
  rintro e w1 ⟨rfl, hbw1⟩
  have HB1 := Lib.hid (HB.out.drew.keep (upd_of_below (S := fun _ => False) hbw1) (fun h => h))
  have HT1 := Lib.hid (fun j hj => (upd_of_below (S := fun _ => False) hbw1).cell (HT.out j hj) (fun h => h))
  have HW1 := Lib.hid hbw1; clear hbw1
  refine hK.out _ _ (fun _ => HB1.out.all) (fun hHeld => ?_)
  clear hK K
  try simp only [Act.put, List.setIfInBounds_toArray, List.set_cons_zero, List.set_cons_succ, Array.toArray_toList]
  refine wpAnyT_ready (rs := [5]) (by kernel_rfl) (by simp) ?_
  refine AllReadyT.cons (o := _) rfl (fun K hK => ?_) (by kernel_rfl) AllReadyT.nil
  go_simp
  (with_reducible refine (through_any (trn 3 f) T C 258 w1 (fun j => trn_lt 3 f HF.out j) (fun j hj => HT1.out j hj)).mono ?_)
  rintro e w2 ⟨rfl, hbw2⟩
  have HB2 := Lib.hid (HB1.out.keep (upd_of_below (S := fun _ => False) hbw2) (fun h => h))
  have HW2 := Lib.hid hbw2; clear hbw2
  refine hK.out _ _ (fun _ => HB2.out.all) (fun hHeld => ?_)
  clear hK K
  try simp only [Act.put, List.setIfInBounds_toArray, List.set_cons_zero, List.set_cons_succ, Array.toArray_toList]
  refine wpAnyT_ready (rs := [6]) (by kernel_rfl) (by simp) ?_
  refine AllReadyT.last (o := _) rfl (fun K hK => ?_) (by kernel_rfl)
  rw [if_pos (by rfl)]
  refine wp_store_row 55 (.tmp 5) (.tmp 43) rfl W5 (arr 16 (fun j => T (trn 3 f j))) rfl rfl 55 _ HB2.out (size16 55 i55 _) (by rw [arr_size, arr_size]) (arr_one _ _) ?_
  refine hK.out _ _ ?_
  clear hK K
  try simp only [Act.put]
  refine wpAnyT_done (by kernel_rfl) ?_ _
  refine NoPanic.normal ?_
  exact HQ.out _ _ _ _ _ _ w2 ((((below_drew (Below.refl w.heap.size w)).trans HW1.out)).trans (HW2.out.mono HW1.out.size))
noncomputable def un11C : Code := ((Try.f19.body.bind (regionAt 11)).getD .skip)
set_option maxRecDepth 100000 in
set_option maxHeartbeats 1000000 in
theorem un11 {x1 x2 x3 x4 x6 x7 x8 x9 x10 x11 x12 x13 x14 x15 x16 x17 x18 x19 x20 x21 x22 x23 x24 x25 x26 x27 x28 x29 x30 x31 x32 x33 x34 x35 x36 x37 x38 x39 x40 x41 x42 x43 x44 x45 x46 x47 x48 x49 x50 x51 x52 : Value} (C W5 gb m cap : Nat) (f F : Nat → Nat) (w : World) (Q : Exit → Act → World → Prop) (him : 0 < m) (hm : m ≤ 100) (hmc : m ≤ cap) (hf : ∀ j, f j < 256) (hF : ∀ j, F j < 256) (hc : w.cell? ⟨C, 1, none⟩ = some (.slice (some ⟨gb, 0, none⟩) m cap)) (hr : w.rangeAt gb 0 (arr 16 F).toList) (hb : Blk w W5 55 16 f)
    (hQ : ∀ (y44 y45 y46 y47 y48 y49 y50 y51 y52 : Value) (w6 : World), Below w.heap.size w w6 → Q .normal ⟨(.pointer (some ⟨C, 0, none⟩) :: x1 :: x2 :: x3 :: .string (txt fun j => f j ^^^ F j) :: .pointer (some ⟨W5, 0, none⟩) :: x6 :: x7 :: x8 :: x9 :: x10 :: x11 :: x12 :: x13 :: x14 :: x15 :: x16 :: x17 :: x18 :: x19 :: x20 :: x21 :: x22 :: x23 :: x24 :: x25 :: x26 :: x27 :: x28 :: x29 :: x30 :: x31 :: x32 :: x33 :: x34 :: x35 :: x36 :: x37 :: x38 :: x39 :: x40 :: x41 :: x42 :: x43 :: y44 :: y45 :: y46 :: y47 :: y48 :: y49 :: y50 :: y51 :: y52 :: []).toArray, []⟩ w6) :
    Code.wp Try.prog un11C Q ⟨(.pointer (some ⟨C, 0, none⟩) :: x1 :: x2 :: x3 :: x4 :: .pointer (some ⟨W5, 0, none⟩) :: x6 :: x7 :: x8 :: x9 :: x10 :: x11 :: x12 :: x13 :: x14 :: x15 :: x16 :: x17 :: x18 :: x19 :: x20 :: x21 :: x22 :: x23 :: x24 :: x25 :: x26 :: x27 :: x28 :: x29 :: x30 :: x31 :: x32 :: x33 :: x34 :: x35 :: x36 :: x37 :: x38 :: x39 :: x40 :: x41 :: x42 :: x43 :: x44 :: x45 :: x46 :: x47 :: x48 :: x49 :: x50 :: x51 :: x52 :: []).toArray, []⟩ w := by
  have HQ := Lib.hid hQ; clear hQ
  have HF := Lib.hid (And.intro hf hF); clear hf hF
  have HB := Lib.hid hb
  have HC := Lib.hid hc
  have HR := Lib.hid hr
  have i1 : (0 : Int) < (m : Int) := by omega
  conv => arg 2; whnf
  refine wp_region_T (S := fun w' => w'.rangeAt W5 0 (arr 16 f).toList ∧ w'.cell? ⟨C, 1, none⟩ = some (.slice (some ⟨gb, 0, none⟩) m cap) ∧ w'.rangeAt gb 0 (arr 16 F).toList) (fun _ => false) (by kernel_rfl) ⟨(World.rangeAt_drew _ _ _ _).2 hb.all, hc, (World.rangeAt_drew _ _ _ _).2 hr⟩ (fun hHeld => ?_)
  clear hb hc hr
  refine wpAnyT_take (i := 0) (oi := _) (v := .agg (arr 16 f).toList.toArray) rfl (by kernel_rfl) (by kernel_rfl) (by kernel_rfl) (by kernel_rfl) (fun _ _ _ h => h) ?hy0 (by assumption) ?_
  case hy0 => exact yieldsIf_load_mid (by rfl) 55 (.tmp 5) rfl W5 (0) rfl (arr 16 f).toList _ (fun w h => h.1) Try.underlying55 rfl (size16 55 i55 _)
  try simp only [Act.put, List.setIfInBounds_toArray, List.set_cons_zero, List.set_cons_succ, Array.toArray_toList]
  refine wpAnyT_take (i := 1) (oi := _) (v := ?_) rfl (by kernel_rfl) (by kernel_rfl) (by kernel_rfl) (by kernel_rfl) (fun _ _ _ h => h) (Or.inl ⟨by rfl, ?_⟩) (by assumption) ?_
  rotate_left
  · intro w' hSw
    go_split_ands
    go_simp
    try rfl
  try simp only [Act.put, List.setIfInBounds_toArray, List.set_cons_zero, List.set_cons_succ, Array.toArray_toList]
  refine wpAnyT_take (i := 2) (oi := _) (v := ?_) rfl (by kernel_rfl) (by kernel_rfl) (by kernel_rfl) (by kernel_rfl) (fun _ _ _ h => h) (Or.inl ⟨by rfl, ?_⟩) (by assumption) ?_
  rotate_left
  · intro w' hSw
    go_split_ands
    go_simp
    try rfl
  try simp only [Act.put, List.setIfInBounds_toArray, List.set_cons_zero, List.set_cons_succ, Array.toArray_toList]
  refine wpAnyT_take (i := 3) (oi := _) (v := ?_) rfl (by kernel_rfl) (by kernel_rfl) (by kernel_rfl) (by kernel_rfl) (fun _ _ _ h => h) (Or.inl ⟨by rfl, ?_⟩) (by assumption) ?_
  rotate_left
  · intro w' hSw
    go_split_ands
    go_simp
    try rfl
  try simp only [Act.put, List.setIfInBounds_toArray, List.set_cons_zero, List.set_cons_succ, Array.toArray_toList]
  refine wpAnyT_take (i := 4) (oi := _) (v := ?_) rfl (by kernel_rfl) (by kernel_rfl) (by kernel_rfl) (by kernel_rfl) (fun _ _ _ h => h) (Or.inl ⟨by rfl, ?_⟩) (by assumption) ?_
  rotate_left
  · intro w' hSw
    go_split_ands
    go_simp
    try rfl
  try simp only [Act.put, List.setIfInBounds_toArray, List.set_cons_zero, List.set_cons_succ, Array.toArray_toList]
  refine wpAnyT_take (i := 5) (oi := _) (v := ?_) rfl (by kernel_rfl) (by kernel_rfl) (by kernel_rfl) (by kernel_rfl) (fun _ _ _ h => h) (Or.inl ⟨by rfl, ?_⟩) (by assumption) ?_
  rotate_left
  · intro w' hSw
    go_split_ands
    go_simp
    try rfl
  try simp only [Act.put, List.setIfInBounds_toArray, List.set_cons_zero, List.set_cons_succ, Array.toArray_toList]
  refine wpAnyT_take (i := 6) (oi := _) (v := .agg (arr 16 F).toList.toArray) rfl (by kernel_rfl) (by kernel_rfl) (by kernel_rfl) (by kernel_rfl) (fun _ _ _ h => h) ?hy6 (by assumption) ?_
  case hy6 => exact yieldsIf_load_mid (by rfl) 55 (.tmp 49) rfl gb (0) rfl (arr 16 F).toList _ (fun w h => h.2.2) Try.underlying55 rfl (size16 55 i55 _)
  try simp only [Act.put, List.setIfInBounds_toArray, List.set_cons_zero, List.set_cons_succ, Array.toArray_toList]
  refine wpAnyT_ready (rs := [7]) (by kernel_rfl) (by simp) ?_
  refine AllReadyT.cons (o := _) rfl (fun K hK => ?_) (by kernel_rfl) AllReadyT.nil
  go_simp
  (with_reducible refine (add_any f F w.drew HF.out.1 HF.out.2).mono ?_)
  rintro e w1 ⟨rfl, hbw1⟩
  have HB1 := Lib.hid (HB.out.drew.keep (upd_of_below (S := fun _ => False) hbw1) (fun h => h))
  have HS1 := Lib.hid (And.intro ((upd_of_below (S := fun _ => False) hbw1).cell (show w.drew.cell? ⟨C, 1, none⟩ = _ from HC.out) (fun h => h)) (range_upd (upd_of_below (S := fun _ => False) hbw1) ((World.rangeAt_drew _ _ _ _).2 HR.out) (fun h => h)))
  have HW1 := Lib.hid hbw1; clear hbw1
  refine hK.out _ _ (fun _ => ⟨HB1.out.all, HS1.out⟩) (fun hHeld => ?_)
  clear hK K
  try simp only [Act.put, List.setIfInBounds_toArray, List.set_cons_zero, List.set_cons_succ, Array.toArray_toList]
  refine wpAnyT_ready (rs := [8]) (by kernel_rfl) (by simp) ?_
  refine AllReadyT.cons (o := _) rfl (fun K hK => ?_) (by kernel_rfl) AllReadyT.nil
  go_simp
  (with_reducible refine (write_any (fun j => f j ^^^ F j) w1 (fun j => Ytlhakobfjokabaa.x8 (HF.out.1 j) (HF.out.2 j))).mono ?_)
  rintro e w2 ⟨rfl, hbw2⟩
  have HB2 := Lib.hid (HB1.out.keep (upd_of_below (S := fun _ => False) hbw2) (fun h => h))
  have HS2 := Lib.hid (And.intro ((upd_of_below (S := fun _ => False) hbw2).cell HS1.out.1 (fun h => h)) (range_upd (upd_of_below (S := fun _ => False) hbw2) HS1.out.2 (fun h => h)))
  have HW2 := Lib.hid hbw2; clear hbw2
  refine hK.out _ _ (fun _ => ⟨HB2.out.all, HS2.out⟩) (fun hHeld => ?_)
  clear hK K
  try simp only [Act.put, List.setIfInBounds_toArray, List.set_cons_zero, List.set_cons_succ, Array.toArray_toList]
  refine wpAnyT_take (i := 9) (oi := _) (v := ?_) rfl (by kernel_rfl) (by kernel_rfl) (by kernel_rfl) (by kernel_rfl) (fun _ _ _ h => h) (Or.inl ⟨by rfl, ?_⟩) (by assumption) ?_
  rotate_left
  · intro w' hSw
    go_split_ands
    go_simp
    try rfl
  try simp only [Act.put, List.setIfInBounds_toArray, List.set_cons_zero, List.set_cons_succ, Array.toArray_toList]
  refine wpAnyT_done (by kernel_rfl) ?_ _
  refine NoPanic.normal ?_
  exact HQ.out _ _ _ _ _ _ _ _ _ w2 ((((below_drew (Below.refl w.heap.size w)).trans HW1.out)).trans (HW2.out.mono HW1.out.size))
noncomputable def do3C : Code := ((Try.f16.body.bind (regionAt 3)).getD .skip)
set_option maxRecDepth 100000 in
set_option maxHeartbeats 1000000 in
theorem do3 {x2 x3 x4 x5 x6 x7 x8 x9 x10 x11 x12 x13 x14 x15 x16 x17 x18 x19 x20 x21 x22 x23 x24 x25 x26 x27 x28 x29 x30 x31 x32 x33 x34 x35 x36 x37 x38 x39 x40 x41 x42 x43 x44 x45 x46 x47 x48 x49 x50 x51 x52 : Value} (C gb m cap : Nat) (s : ByteArray) (F : Nat → Nat) (w : World) (Q : Exit → Act → World → Prop) (him : 0 < m) (hm : m ≤ 100) (hmc : m ≤ cap) (hs : s.size = 16) (hF : ∀ j, F j < 256) (hc : w.cell? ⟨C, 1, none⟩ = some (.slice (some ⟨gb, 0, none⟩) m cap)) (hr : w.rangeAt gb 0 (arr 16 F).toList)
    (hQ : ∀ (y10 y11 y12 y13 y14 y15 y16 y17 y18 : Value) (W5 : Nat) (w6 : World), w.heap.size ≤ W5 → Blk w6 W5 55 16 (fun j => byt s j ^^^ F j) → Below w.heap.size w w6 → Q .normal ⟨(.pointer (some ⟨C, 0, none⟩) :: .string s :: x2 :: x3 :: x4 :: .pointer (some ⟨W5, 0, none⟩) :: x6 :: x7 :: x8 :: x9 :: y10 :: y11 :: y12 :: y13 :: y14 :: y15 :: y16 :: y17 :: y18 :: x19 :: x20 :: x21 :: x22 :: x23 :: x24 :: x25 :: x26 :: x27 :: x28 :: x29 :: x30 :: x31 :: x32 :: x33 :: x34 :: x35 :: x36 :: x37 :: x38 :: x39 :: x40 :: x41 :: x42 :: x43 :: x44 :: x45 :: x46 :: x47 :: x48 :: x49 :: x50 :: x51 :: x52 :: []).toArray, []⟩ w6) :
    Code.wp Try.prog do3C Q ⟨(.pointer (some ⟨C, 0, none⟩) :: .string s :: x2 :: x3 :: x4 :: x5 :: x6 :: x7 :: x8 :: x9 :: x10 :: x11 :: x12 :: x13 :: x14 :: x15 :: x16 :: x17 :: x18 :: x19 :: x20 :: x21 :: x22 :: x23 :: x24 :: x25 :: x26 :: x27 :: x28 :: x29 :: x30 :: x31 :: x32 :: x33 :: x34 :: x35 :: x36 :: x37 :: x38 :: x39 :: x40 :: x41 :: x42 :: x43 :: x44 :: x45 :: x46 :: x47 :: x48 :: x49 :: x50 :: x51 :: x52 :: []).toArray, []⟩ w := by
  have HQ := Lib.hid hQ; clear hQ
  have HF := Lib.hid (And.intro (byt_lt s) (And.intro hF hs)); clear hF hs
  have HS := Lib.hid (show ∀ w', Below w.heap.size w w' → w'.cell? ⟨C, 1, none⟩ = some (.slice (some ⟨gb, 0, none⟩) m cap) ∧ w'.rangeAt gb 0 (arr 16 F).toList from fun w' hu => ⟨(upd_of_below (S := fun _ => False) hu).cell hc (fun h => h), range_upd (upd_of_below (S := fun _ => False) hu) hr (fun h => h)⟩)
  have i1 : (0 : Int) < (m : Int) := by omega
  have HW0 := Lib.hid (below_drew (Below.refl w.heap.size w))
  conv => arg 2; whnf
  refine wp_region_T (S := fun w' => w'.cell? ⟨C, 1, none⟩ = some (.slice (some ⟨gb, 0, none⟩) m cap) ∧ w'.rangeAt gb 0 (arr 16 F).toList) (fun j => j == 10) (by kernel_rfl) ⟨hc, (World.rangeAt_drew _ _ _ _).2 hr⟩ (fun hHeld => ?_)
  clear hc hr
  refine wpAnyT_take (i := 0) (oi := _) (v := ?_) rfl (by kernel_rfl) (by kernel_rfl) (by kernel_rfl) (by kernel_rfl) (fun _ _ _ h => h) (Or.inl ⟨by rfl, ?_⟩) (by assumption) ?_
  rotate_left
  · intro w' hSw
    go_split_ands
    go_simp
    try rfl
  try simp only [Act.put, List.setIfInBounds_toArray, List.set_cons_zero, List.set_cons_succ, Array.toArray_toList]
  refine wpAnyT_take (i := 2) (oi := _) (v := ?_) rfl (by kernel_rfl) (by kernel_rfl) (by kernel_rfl) (by kernel_rfl) (fun _ _ _ h => h) (Or.inl ⟨by rfl, ?_⟩) (by assumption) ?_
  rotate_left
  · intro w' hSw
    go_split_ands
    go_simp
    try rfl
  try simp only [Act.put, List.setIfInBounds_toArray, List.set_cons_zero, List.set_cons_succ, Array.toArray_toList]
  refine wpAnyT_take (i := 3) (oi := _) (v := ?_) rfl (by kernel_rfl) (by kernel_rfl) (by kernel_rfl) (by kernel_rfl) (fun _ _ _ h => h) (Or.inl ⟨by rfl, ?_⟩) (by assumption) ?_
  rotate_left
  · intro w' hSw
    go_split_ands
    go_simp
    try rfl
  try simp only [Act.put, List.setIfInBounds_toArray, List.set_cons_zero, List.set_cons_succ, Array.toArray_toList]
  refine wpAnyT_take (i := 4) (oi := _) (v := ?_) rfl (by kernel_rfl) (by kernel_rfl) (by kernel_rfl) (by kernel_rfl) (fun _ _ _ h => h) (Or.inl ⟨by rfl, ?_⟩) (by assumption) ?_
  rotate_left
  · intro w' hSw
    go_split_ands
    go_simp
    try rfl
  try simp only [Act.put, List.setIfInBounds_toArray, List.set_cons_zero, List.set_cons_succ, Array.toArray_toList]
  refine wpAnyT_take (i := 5) (oi := _) (v := ?_) rfl (by kernel_rfl) (by kernel_rfl) (by kernel_rfl) (by kernel_rfl) (fun _ _ _ h => h) (Or.inl ⟨by rfl, ?_⟩) (by assumption) ?_
  rotate_left
  · intro w' hSw
    go_split_ands
    go_simp
    try rfl
  try simp only [Act.put, List.setIfInBounds_toArray, List.set_cons_zero, List.set_cons_succ, Array.toArray_toList]
  refine wpAnyT_take (i := 6) (oi := _) (v := ?_) rfl (by kernel_rfl) (by kernel_rfl) (by kernel_rfl) (by kernel_rfl) (fun _ _ _ h => h) (Or.inl ⟨by rfl, ?_⟩) (by assumption) ?_
  rotate_left
  · intro w' hSw
    go_split_ands
    go_simp
    try rfl
  try simp only [Act.put, List.setIfInBounds_toArray, List.set_cons_zero, List.set_cons_succ, Array.toArray_toList]
  refine wpAnyT_take (i := 7) (oi := _) (v := .agg (arr 16 F).toList.toArray) rfl (by kernel_rfl) (by kernel_rfl) (by kernel_rfl) (by kernel_rfl) (fun _ _ _ h => h) ?hy7 (by assumption) ?_
  case hy7 => exact yieldsIf_load_mid (by rfl) 55 (.tmp 16) rfl gb (0) rfl (arr 16 F).toList _ (fun w h => h.2) Try.underlying55 rfl (size16 55 i55 _)
  try simp only [Act.put, List.setIfInBounds_toArray, List.set_cons_zero, List.set_cons_succ, Array.toArray_toList]
  refine wpAnyT_ready (rs := [1, 9]) (by kernel_rfl) (by simp) ?_
  refine AllReadyT.cons (o := _) rfl (fun K hK => ?_) (by kernel_rfl) ?_
  · go_simp
    (with_reducible refine (read_any s _ HF.out.2.2).mono ?_)
    rintro e w1 ⟨rfl, hbw1⟩
    have HU1 := Lib.hid (HW0.out.trans (hbw1.mono HW0.out.size))
    clear hbw1
    refine hK.out _ _ (fun _ => HS.out _ HU1.out) (fun hHeld => ?_)
    clear hK K
    try simp only [Act.put, List.setIfInBounds_toArray, List.set_cons_zero, List.set_cons_succ, Array.toArray_toList]
    refine wpAnyT_ready (rs := [8, 9]) (by kernel_rfl) (by simp) ?_
    refine AllReadyT.cons (o := _) rfl (fun K hK => ?_) (by kernel_rfl) ?_
    · go_simp
      (with_reducible refine (add_any (byt s) F _ HF.out.1 HF.out.2.1).mono ?_)
      rintro e w2 ⟨rfl, hbw2⟩
      have HU2 := Lib.hid (HU1.out.trans (hbw2.mono HU1.out.size))
      clear hbw2
      refine hK.out _ _ (fun _ => HS.out _ HU2.out) (fun hHeld => ?_)
      clear hK K
      try simp only [Act.put, List.setIfInBounds_toArray, List.set_cons_zero, List.set_cons_succ, Array.toArray_toList]
      refine wpAnyT_ready (rs := [9]) (by kernel_rfl) (by simp) ?_
      refine AllReadyT.cons (o := _) rfl (fun K hK => ?_) (by kernel_rfl) AllReadyT.nil
      go_simp
      rw [zeros16]
      have HU3 := Lib.hid (HU2.out.alloc HU2.out.size (.cells (arr 16 fun _ => 0) 55))
      have HB3 := Lib.hid (Blk.new (w2) 55 16 fun _ => 0)
      have HL3 := Lib.hid HU2.out.size
      refine hK.out _ _ (fun _ => HS.out _ HU3.out) (fun hHeld => ?_)
      clear hK K
      try simp only [Act.put, List.setIfInBounds_toArray, List.set_cons_zero, List.set_cons_succ, Array.toArray_toList]
      refine wpAnyT_ready (rs := [10]) (by kernel_rfl) (by simp) ?_
      refine AllReadyT.last (o := _) rfl (fun K hK => ?_) (by kernel_rfl)
      rw [if_pos (by rfl)]
      refine wp_store_row 55 (.tmp 5) (.tmp 18) rfl _ (arr 16 fun j => byt s j ^^^ F j) rfl rfl 55 _ HB3.out (size16 55 i55 _) (by rw [arr_size, arr_size]) (arr_one _ _) ?_
      refine hK.out _ _ ?_
      clear hK K
      try simp only [Act.put]
      refine wpAnyT_done (by kernel_rfl) ?_ _
      refine NoPanic.normal ?_
      exact HQ.out _ _ _ _ _ _ _ _ _ _ _ HL3.out (Blk.setRow HB3.out _) (HU3.out.trans ((upd_setRow _ _ _).below HU3.out.size (by intro k e; rw [e]; exact HL3.out)))
    refine AllReadyT.cons (o := _) rfl (fun K hK => ?_) (by kernel_rfl) AllReadyT.nil
    go_simp
    rw [zeros16]
    have HU2 := Lib.hid (HU1.out.alloc HU1.out.size (.cells (arr 16 fun _ => 0) 55))
    have HB2 := Lib.hid (Blk.new (w1) 55 16 fun _ => 0)
    have HL2 := Lib.hid HU1.out.size
    refine hK.out _ _ (fun _ => HS.out _ HU2.out) (fun hHeld => ?_)
    clear hK K
    try simp only [Act.put, List.setIfInBounds_toArray, List.set_cons_zero, List.set_cons_succ, Array.toArray_toList]
    refine wpAnyT_ready (rs := [8]) (by kernel_rfl) (by simp) ?_
    refine AllReadyT.cons (o := _) rfl (fun K hK => ?_) (by kernel_rfl) AllReadyT.nil
    go_simp
    (with_reducible refine (add_any (byt s) F _ HF.out.1 HF.out.2.1).mono ?_)
    rintro e w3 ⟨rfl, hbw3⟩
    have HU3 := Lib.hid (HU2.out.trans (hbw3.mono HU2.out.size))
    have HB3 := Lib.hid (HB2.out.keep (upd_of_below (S := fun _ => False) hbw3) (fun h => h))
    clear hbw3
    refine hK.out _ _ (fun _ => HS.out _ HU3.out) (fun hHeld => ?_)
    clear hK K
    try simp only [Act.put, List.setIfInBounds_toArray, List.set_cons_zero, List.set_cons_succ, Array.toArray_toList]
    refine wpAnyT_ready (rs := [10]) (by kernel_rfl) (by simp) ?_
    refine AllReadyT.last (o := _) rfl (fun K hK => ?_) (by kernel_rfl)
    rw [if_pos (by rfl)]
    refine wp_store_row 55 (.tmp 5) (.tmp 18) rfl _ (arr 16 fun j => byt s j ^^^ F j) rfl rfl 55 _ HB3.out (size16 55 i55 _) (by rw [arr_size, arr_size]) (arr_one _ _) ?_
    refine hK.out _ _ ?_
    clear hK K
    try simp only [Act.put]
    refine wpAnyT_done (by kernel_rfl) ?_ _
    refine NoPanic.normal ?_
    exact HQ.out _ _ _ _ _ _ _ _ _ _ _ HL2.out (Blk.setRow HB3.out _) (HU3.out.trans ((upd_setRow _ _ _).below HU3.out.size (by intro k e; rw [e]; exact HL2.out)))
  refine AllReadyT.cons (o := _) rfl (fun K hK => ?_) (by kernel_rfl) AllReadyT.nil
  go_simp
  rw [zeros16]
  have HU1 := Lib.hid (HW0.out.alloc HW0.out.size (.cells (arr 16 fun _ => 0) 55))
  have HB1 := Lib.hid (Blk.new (w.drew) 55 16 fun _ => 0)
  have HL1 := Lib.hid HW0.out.size
  refine hK.out _ _ (fun _ => HS.out _ HU1.out) (fun hHeld => ?_)
  clear hK K
  try simp only [Act.put, List.setIfInBounds_toArray, List.set_cons_zero, List.set_cons_succ, Array.toArray_toList]
  refine wpAnyT_ready (rs := [1]) (by kernel_rfl) (by simp) ?_
  refine AllReadyT.cons (o := _) rfl (fun K hK => ?_) (by kernel_rfl) AllReadyT.nil
  go_simp
  (with_reducible refine (read_any s _ HF.out.2.2).mono ?_)
  rintro e w2 ⟨rfl, hbw2⟩
  have HU2 := Lib.hid (HU1.out.trans (hbw2.mono HU1.out.size))
  have HB2 := Lib.hid (HB1.out.keep (upd_of_below (S := fun _ => False) hbw2) (fun h => h))
  clear hbw2
  refine hK.out _ _ (fun _ => HS.out _ HU2.out) (fun hHeld => ?_)
  clear hK K
  try simp only [Act.put, List.setIfInBounds_toArray, List.set_cons_zero, List.set_cons_succ, Array.toArray_toList]
  refine wpAnyT_ready (rs := [8]) (by kernel_rfl) (by simp) ?_
  refine AllReadyT.cons (o := _) rfl (fun K hK => ?_) (by kernel_rfl) AllReadyT.nil
  go_simp
  (with_reducible refine (add_any (byt s) F _ HF.out.1 HF.out.2.1).mono ?_)
  rintro e w3 ⟨rfl, hbw3⟩
  have HU3 := Lib.hid (HU2.out.trans (hbw3.mono HU2.out.size))
  have HB3 := Lib.hid (HB2.out.keep (upd_of_below (S := fun _ => False) hbw3) (fun h => h))
  clear hbw3
  refine hK.out _ _ (fun _ => HS.out _ HU3.out) (fun hHeld => ?_)
  clear hK K
  try simp only [Act.put, List.setIfInBounds_toArray, List.set_cons_zero, List.set_cons_succ, Array.toArray_toList]
  refine wpAnyT_ready (rs := [10]) (by kernel_rfl) (by simp) ?_
  refine AllReadyT.last (o := _) rfl (fun K hK => ?_) (by kernel_rfl)
  rw [if_pos (by rfl)]
  refine wp_store_row 55 (.tmp 5) (.tmp 18) rfl _ (arr 16 fun j => byt s j ^^^ F j) rfl rfl 55 _ HB3.out (size16 55 i55 _) (by rw [arr_size, arr_size]) (arr_one _ _) ?_
  refine hK.out _ _ ?_
  clear hK K
  try simp only [Act.put]
  refine wpAnyT_done (by kernel_rfl) ?_ _
  refine NoPanic.normal ?_
  exact HQ.out _ _ _ _ _ _ _ _ _ _ _ HL1.out (Blk.setRow HB3.out _) (HU3.out.trans ((upd_setRow _ _ _).below HU3.out.size (by intro k e; rw [e]; exact HL1.out)))
end Go.Proofs.Ytlhakobfjokabaa
