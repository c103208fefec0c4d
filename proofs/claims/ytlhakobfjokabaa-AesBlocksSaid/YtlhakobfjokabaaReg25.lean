/-
  A region of expand: a state's words joined to the cipher's.
-/
import Derived.Test.YtlhakobfjokabaaRegionT
namespace Go.Proofs.Ytlhakobfjokabaa
open Go.RowKit

/-- The region with this number. -/
def regionAt (id : Nat) : Code → Option Code
  | .region i ops d => if i = id then some (.region i ops d) else none
  | .loop c => regionAt id c
  | .seq a b => match regionAt id a with
    | some c => some c
    | none => regionAt id b
  | .block _ c => regionAt id c
  | .scope c => regionAt id c
  | .cond _ a b => match regionAt id a with
    | some c => some c
    | none => regionAt id b
  | _ => none
noncomputable def r25 : Code := ((Try.f25.body.bind (regionAt 25)).getD .skip)
theorem fold16 (f : Nat → Nat) : Array.foldl (fun cs (x : Value × Nat) => cs.setIfInBounds x.snd x.fst) #[.int .u8 0, .int .u8 0, .int .u8 0, .int .u8 0, .int .u8 0, .int .u8 0, .int .u8 0, .int .u8 0, .int .u8 0, .int .u8 0, .int .u8 0, .int .u8 0, .int .u8 0, .int .u8 0, .int .u8 0, .int .u8 0] (arr 16 f).zipIdx 0 16 = arr 16 f := by kernel_rfl
theorem info55 : (Try.prog.info? 55).map (fun i => (i.zero, i.size, i.bytes)) = some (some (.agg (arr 16 fun _ => 0)), 16, 16) := by kernel_rfl
theorem arr_at55 (a : Addr) (n cap : Nat) (hn : 4 ≤ n) (w : World) : (Instr.arrayAt 55 (.slice (some a) n cap)).run Try.prog w = .ok (.pointer (some a)) w := by
  have h1 : ¬ n < 4 := by omega
  simp [Instr.arrayAt, run_underlying Try.underlying55, go_sem, h1]

theorem Upd.frozen' {S : Nat → Prop} {w w' : World} (hu : Upd S w w') {p : Addr} (h : p.block < w.heap.size) (hn : ¬ S p.block) : w'.frozen? p = w.frozen? p :=
  World.frozen?_of_block (w := w) (hu.block p.block h hn)
theorem rangeAt_lt {w : World} {b o : Nat} {cs : List Value} (h : w.rangeAt b o cs) (hn : 0 < cs.length) : b < w.heap.size := cell_lt (h 0 _ (List.getElem?_eq_getElem hn))
set_option maxRecDepth 100000 in
set_option maxHeartbeats 400000 in
theorem reg25 {x1 x2 x3 x4 x6 x7 x8 x9 x11 x12 x13 x14 x15 x16 x17 x18 x19 x20 x21 x22 x23 x24 x25 x26 x27 x28 x29 x30 x31 x32 x33 x34 x35 x36 x37 x38 x39 x40 x41 x42 x43 x44 x45 x46 x47 x48 x49 x50 x51 x52 x53 x54 x55 x56 x57 x58 x59 x60 x61 x62 x63 x64 x65 x66 x67 x68 x69 x70 x71 x72 x73 x74 x75 x76 x77 x78 x79 x80 x81 x82 x83 x84 x85 x86 x87 x88 x89 x90 x91 x92 x93 x94 x95 x96 x97 x98 x99 x100 x101 x102 x103 x104 x105 x106 x107 x108 x109 x110 x111 x112 x113 x114 x115 x116 x117 x118 x119 x120 x121 x122 : Value} (C gb k cap t B0 : Nat) (v : Value) (F : Nat → Nat) (xs : List Value) (w : World) (Q : Exit → Act → World → Prop)
    (htk : 4 * t + 4 ≤ k) (hkc : k ≤ cap) (hk60 : k ≤ 1000) (hc : w.cell? ⟨C, 1, none⟩ = some v) (hf : w.frozen? ⟨C, 1, none⟩ = false) (hr : w.rangeAt gb (4 * t * 4) (arr 16 F).toList) (ho : w.ownsRow B0 55 16 v t xs) (hB : B0 ≤ w.heap.size) (hCB : C < B0) (hgv : v.ownBlock ≠ some gb)
    (hQ : ∀ (y107 y108 y109 y110 y111 y112 y113 y114 y115 y116 y117 y118 y119 y120 y121 y122 : Value) (g2 cap2 : Nat) (w6 : World), w6.ownsRow B0 55 16 (.slice (some ⟨g2, 0, none⟩) (t + 1) cap2) (t + 1) (xs ++ (arr 16 F).toList) → (w.alloc (.cells (arr 16 F) 55)).drew.grownBy w6 v.ownBlock → (v.ownBlock = some g2 ∨ g2 = w.heap.size + 1) →
      Q .normal ⟨(.pointer (some ⟨C, 0, none⟩) :: x1 :: x2 :: x3 :: x4 :: .slice (some ⟨gb, 0, none⟩) k cap :: x6 :: x7 :: x8 :: x9 :: .int .i64 (4 * (t : Int)) :: x11 :: x12 :: x13 :: x14 :: x15 :: x16 :: x17 :: x18 :: x19 :: x20 :: x21 :: x22 :: x23 :: x24 :: x25 :: x26 :: x27 :: x28 :: x29 :: x30 :: x31 :: x32 :: x33 :: x34 :: x35 :: x36 :: x37 :: x38 :: x39 :: x40 :: x41 :: x42 :: x43 :: x44 :: x45 :: x46 :: x47 :: x48 :: x49 :: x50 :: x51 :: x52 :: x53 :: x54 :: x55 :: x56 :: x57 :: x58 :: x59 :: x60 :: x61 :: x62 :: x63 :: x64 :: x65 :: x66 :: x67 :: x68 :: x69 :: x70 :: x71 :: x72 :: x73 :: x74 :: x75 :: x76 :: x77 :: x78 :: x79 :: x80 :: x81 :: x82 :: x83 :: x84 :: x85 :: x86 :: x87 :: x88 :: x89 :: x90 :: x91 :: x92 :: x93 :: x94 :: x95 :: x96 :: x97 :: x98 :: x99 :: x100 :: x101 :: x102 :: x103 :: x104 :: x105 :: x106 :: y107 :: y108 :: y109 :: y110 :: y111 :: y112 :: y113 :: y114 :: y115 :: y116 :: y117 :: y118 :: y119 :: y120 :: y121 :: y122 :: []).toArray, []⟩ (w6.setCell ⟨C, 1, none⟩ (.slice (some ⟨g2, 0, none⟩) (t + 1) cap2))) :
    Code.wp Try.prog r25 Q ⟨(.pointer (some ⟨C, 0, none⟩) :: x1 :: x2 :: x3 :: x4 :: .slice (some ⟨gb, 0, none⟩) k cap :: x6 :: x7 :: x8 :: x9 :: .int .i64 (4 * (t : Int)) :: x11 :: x12 :: x13 :: x14 :: x15 :: x16 :: x17 :: x18 :: x19 :: x20 :: x21 :: x22 :: x23 :: x24 :: x25 :: x26 :: x27 :: x28 :: x29 :: x30 :: x31 :: x32 :: x33 :: x34 :: x35 :: x36 :: x37 :: x38 :: x39 :: x40 :: x41 :: x42 :: x43 :: x44 :: x45 :: x46 :: x47 :: x48 :: x49 :: x50 :: x51 :: x52 :: x53 :: x54 :: x55 :: x56 :: x57 :: x58 :: x59 :: x60 :: x61 :: x62 :: x63 :: x64 :: x65 :: x66 :: x67 :: x68 :: x69 :: x70 :: x71 :: x72 :: x73 :: x74 :: x75 :: x76 :: x77 :: x78 :: x79 :: x80 :: x81 :: x82 :: x83 :: x84 :: x85 :: x86 :: x87 :: x88 :: x89 :: x90 :: x91 :: x92 :: x93 :: x94 :: x95 :: x96 :: x97 :: x98 :: x99 :: x100 :: x101 :: x102 :: x103 :: x104 :: x105 :: x106 :: x107 :: x108 :: x109 :: x110 :: x111 :: x112 :: x113 :: x114 :: x115 :: x116 :: x117 :: x118 :: x119 :: x120 :: x121 :: x122 :: []).toArray, []⟩ w := by
  obtain ⟨i2, hi, hz0, hz1, hz2⟩ := info_parts info55
  have HI2 := Lib.hid (And.intro hi (And.intro hz0 (And.intro hz1 hz2))); clear hi hz0 hz1 hz2
  conv => arg 2; whnf
  have HQ := Lib.hid hQ; clear hQ
  have HO := Lib.hid ho; clear ho
  have HB := Lib.hid hB; clear hB
  have hi55 := size16 55 i55 F
  have a0 : 4 * (t : Int) + 4 ≤ (k : Int) := by omega
  have a1 : (0 : Int) ≤ 4 * (t : Int) + 4 := by omega
  have a2 : (0 : Int) ≤ 4 * (t : Int) := by omega
  have a3 : max (4 * (t : Int) + 4) 0 = 4 * (t : Int) + 4 := by omega
  have a4 : (4 * (t : Int)).toNat = 4 * t := by omega
  have a5 : (4 * (t : Int) + 4).toNat = 4 * t + 4 := by omega
  have a6 : ¬ cap = 4 * t := by omega
  have a7 : 4 * (t : Int) ≤ 4 * (t : Int) + 4 := by omega
  have a8 : 4 * t + 4 - 4 * t = 4 := by omega
  have a9 : 4 * (t : Int) + 4 ≤ (cap : Int) := by omega
  have aw : IntKind.i64.wrap (4 * (t : Int) + 4) = 4 * (t : Int) + 4 := by rw [IntKind.wrap_i64]; omega
  have harr := fun c => arr_at55 ⟨gb, 4 * t * 4, none⟩ 4 c (Nat.le_refl _)
  have HC := Lib.hid hc
  have HF := Lib.hid hf
  have HR := Lib.hid hr
  refine wp_region_T (S := fun w' => w'.cell? ⟨C, 1, none⟩ = some v ∧ w'.rangeAt gb (4 * t * 4) (arr 16 F).toList) (fun j => j == 16) (by kernel_rfl) ⟨hc, (World.rangeAt_drew _ _ _ _).2 hr⟩ (fun hHeld => ?_)
  clear hc hf hr

  refine wpAnyT_take (i := 0) (oi := _) (v := ?_) rfl (by kernel_rfl) (by kernel_rfl) (by kernel_rfl) (by kernel_rfl) (fun _ _ _ h => h) (Or.inl ⟨by rfl, ?_⟩) (by assumption) ?_
  rotate_left
  · intro w' hSw
    obtain ⟨hs1, hs2⟩ := hSw
    go_simp
    try rfl
  try simp only [Act.put, List.setIfInBounds_toArray, List.set_cons_zero, List.set_cons_succ]
  refine wpAnyT_take (i := 1) (oi := _) (v := ?_) rfl (by kernel_rfl) (by kernel_rfl) (by kernel_rfl) (by kernel_rfl) (fun _ _ _ h => h) (Or.inl ⟨by rfl, ?_⟩) (by assumption) ?_
  rotate_left
  · intro w' hSw
    obtain ⟨hs1, hs2⟩ := hSw
    go_simp
    try rfl
  try simp only [Act.put, List.setIfInBounds_toArray, List.set_cons_zero, List.set_cons_succ]
  refine wpAnyT_take (i := 2) (oi := _) (v := ?_) rfl (by kernel_rfl) (by kernel_rfl) (by kernel_rfl) (by kernel_rfl) (fun _ _ _ h => h) (Or.inl ⟨by rfl, ?_⟩) (by assumption) ?_
  rotate_left
  · intro w' hSw
    obtain ⟨hs1, hs2⟩ := hSw
    go_simp
    try rfl
  try simp only [Act.put, List.setIfInBounds_toArray, List.set_cons_zero, List.set_cons_succ]
  refine wpAnyT_take (i := 3) (oi := _) (v := ?_) rfl (by kernel_rfl) (by kernel_rfl) (by kernel_rfl) (by kernel_rfl) (fun _ _ _ h => h) (Or.inl ⟨by rfl, ?_⟩) (by assumption) ?_
  rotate_left
  · intro w' hSw
    obtain ⟨hs1, hs2⟩ := hSw
    go_simp
    try rfl
  try simp only [Act.put, List.setIfInBounds_toArray, List.set_cons_zero, List.set_cons_succ]
  refine wpAnyT_take (i := 4) (oi := _) (v := ?_) rfl (by kernel_rfl) (by kernel_rfl) (by kernel_rfl) (by kernel_rfl) (fun _ _ _ h => h) (Or.inl ⟨by rfl, ?_⟩) (by assumption) ?_
  rotate_left
  · intro w' hSw
    obtain ⟨hs1, hs2⟩ := hSw
    go_simp
    try rfl
  try simp only [Act.put, List.setIfInBounds_toArray, List.set_cons_zero, List.set_cons_succ]
  refine wpAnyT_take (i := 5) (oi := _) (v := ?_) rfl (by kernel_rfl) (by kernel_rfl) (by kernel_rfl) (by kernel_rfl) (fun _ _ _ h => h) (Or.inl ⟨by rfl, ?_⟩) (by assumption) ?_
  rotate_left
  · intro w' hSw
    obtain ⟨hs1, hs2⟩ := hSw
    go_simp
    try rfl
  try simp only [Act.put, List.setIfInBounds_toArray, List.set_cons_zero, List.set_cons_succ]
  refine wpAnyT_take (i := 6) (oi := _) (v := ?_) rfl (by kernel_rfl) (by kernel_rfl) (by kernel_rfl) (by kernel_rfl) (fun _ _ _ h => h) (Or.inl ⟨by rfl, ?_⟩) (by assumption) ?_
  rotate_left
  · intro w' hSw
    obtain ⟨hs1, hs2⟩ := hSw
    go_simp
    try rfl
  try simp only [Act.put, List.setIfInBounds_toArray, List.set_cons_zero, List.set_cons_succ]
  refine wpAnyT_take (i := 7) (oi := _) (v := ?_) rfl (by kernel_rfl) (by kernel_rfl) (by kernel_rfl) (by kernel_rfl) (fun _ _ _ h => h) (Or.inl ⟨by rfl, ?_⟩) (by assumption) ?_
  rotate_left
  · intro w' hSw
    obtain ⟨hs1, hs2⟩ := hSw
    go_simp
    try rfl
  try simp only [Act.put, List.setIfInBounds_toArray, List.set_cons_zero, List.set_cons_succ]
  refine wpAnyT_take (i := 8) (oi := _) (v := ?_) rfl (by kernel_rfl) (by kernel_rfl) (by kernel_rfl) (by kernel_rfl) (fun _ _ _ h => h) (Or.inl ⟨by rfl, ?_⟩) (by assumption) ?_
  rotate_left
  · intro w' hSw
    obtain ⟨hs1, hs2⟩ := hSw
    go_simp
    try rfl
  try simp only [Act.put, List.setIfInBounds_toArray, List.set_cons_zero, List.set_cons_succ]
  refine wpAnyT_take (i := 9) (oi := _) (v := ?_) rfl (by kernel_rfl) (by kernel_rfl) (by kernel_rfl) (by kernel_rfl) (fun _ _ _ h => h) (Or.inl ⟨by rfl, ?_⟩) (by assumption) ?_
  rotate_left
  · intro w' hSw
    obtain ⟨hs1, hs2⟩ := hSw
    go_simp
    try rfl
  try simp only [Act.put, List.setIfInBounds_toArray, List.set_cons_zero, List.set_cons_succ]
  refine wpAnyT_take (i := 10) (oi := _) (v := ?_) rfl (by kernel_rfl) (by kernel_rfl) (by kernel_rfl) (by kernel_rfl) (fun _ _ _ h => h) (Or.inl ⟨by rfl, ?_⟩) (by assumption) ?_
  rotate_left
  · intro w' hSw
    obtain ⟨hs1, hs2⟩ := hSw
    go_simp
    try rfl
  try simp only [Act.put, List.setIfInBounds_toArray, List.set_cons_zero, List.set_cons_succ]
  refine wpAnyT_take (i := 11) (oi := _) (v := .agg (arr 16 F).toList.toArray) rfl (by kernel_rfl) (by kernel_rfl) (by kernel_rfl) (by kernel_rfl) (fun _ _ _ h => h) ?hy (by assumption) ?_
  case hy => exact yieldsIf_load_mid (by rfl) 55 (.tmp 117) rfl gb (4 * t * 4) rfl (arr 16 F).toList _ (fun w h => h.2) Try.underlying55 rfl hi55
  have hfold := fold16 F
  have hs16 := arr_size 16 F
  try simp only [Act.put, List.setIfInBounds_toArray, List.set_cons_zero, List.set_cons_succ, Array.toArray_toList]
  clear a0 a1 a2 a3 a4 a5 a6 a7 a8 a9 aw harr
  refine wpAnyT_ready (rs := [12]) (by kernel_rfl) (by simp) ?_
  refine AllReadyT.cons (o := _) rfl (fun K hK => ?_) (by kernel_rfl) AllReadyT.nil
  go_simp
  have hS1 : (w.alloc (.cells (arr 16 F) 55)).drew.cell? ⟨C, 1, none⟩ = some v ∧ (w.alloc (.cells (arr 16 F) 55)).drew.rangeAt gb (4 * t * 4) (arr 16 F).toList := ⟨(upd_alloc (fun _ => False) w _).cell (p := ⟨C, 1, none⟩) HC.out (fun h => h), (World.rangeAt_drew _ _ _ _).2 (World.rangeAt_alloc HR.out _)⟩
  have hgl := rangeAt_lt HR.out (by simp [arr])
  refine hK.out _ _ (fun _ => hS1) (fun hHeld => ?_)
  clear hK K hfold hs16
  try simp only [Act.put, List.setIfInBounds_toArray, List.set_cons_zero, List.set_cons_succ]
  refine wpAnyT_ready (rs := [13]) (by kernel_rfl) (by simp) ?_
  refine AllReadyT.cons (o := _) rfl (fun K hK => ?_) (by kernel_rfl) AllReadyT.nil
  refine step_append_lies _ (by rfl) (.tmp 111) (.tmp 119) 46 (by rfl) B0 55 i2 _ 16 16 Try.underlying46 HI2.out.1 HI2.out.2.1 HI2.out.2.2.1 HI2.out.2.2.2 (arr_size _ _) (by decide) v t xs (by rfl) (World.ownsRow.drew (HO.out.alloc (.cells (arr 16 F) 55))) ⟨w.heap.size, 0, none⟩ 1 1 (arr 16 F).toList (by rfl) (by simp [arr]) (cells_add (Blk.new w 55 16 F).drew) (list_one _ _) (by decide) (by unfold maxLen; omega) (by omega) (Nat.le_trans HB.out (by show w.heap.size ≤ (w.alloc _).heap.size; rw [World.size_alloc]; omega)) (w.heap.size + 1) (show (w.alloc (.cells (arr 16 F) 55)).drew.heap.size = _ from World.size_alloc w _) ?_
  intro g2 cap2 w6 hown' hgrow hat hlt2
  have hug : Upd (fun k => some k = v.ownBlock) (w.alloc (.cells (arr 16 F) 55)).drew w6 := ⟨hgrow.os, hgrow.tape, hgrow.output, hgrow.size, hgrow.block⟩
  have hCv : ¬ some C = v.ownBlock := fun e => by have := (HO.out.lt _ e.symm).1; omega
  have hS2 : w6.cell? ⟨C, 1, none⟩ = some v ∧ w6.rangeAt gb (4 * t * 4) (arr 16 F).toList := ⟨hug.cell hS1.1 hCv, fun j u hu => hug.cell (hS1.2 j u hu) (fun e => hgv e.symm)⟩
  have hf6 : w6.frozen? ⟨C, 1, none⟩ = false := by
    have h1 := Upd.frozen' hug (p := ⟨C, 1, none⟩) (cell_lt hS1.1) hCv
    rw [h1]
    have h2 := Upd.frozen' (upd_alloc (fun _ => False) w (.cells (arr 16 F) 55)) (p := ⟨C, 1, none⟩) (cell_lt HC.out) (fun h => h)
    exact h2.trans HF.out
  have HP := Lib.hid (And.intro hown' (And.intro hgrow hat))
  refine hK.out _ _ (fun _ => hS2) (fun hHeld => ?_)
  clear hK K hS1 hown' hgrow hat hug hCv
  try simp only [Act.put, List.setIfInBounds_toArray, List.set_cons_zero, List.set_cons_succ]
  have hc6 := hS2.1
  have HS2 := Lib.hid hS2
  clear hS2

  refine wpAnyT_ready (rs := [14]) (by kernel_rfl) (by simp) ?_
  refine AllReadyT.cons (o := _) rfl (fun K hK => ?_) (by kernel_rfl) AllReadyT.nil
  go_simp
  refine hK.out _ _ (fun _ => HS2.out) (fun hHeld => ?_)
  clear hK K
  try simp only [Act.put, List.setIfInBounds_toArray, List.set_cons_zero, List.set_cons_succ]
  refine wpAnyT_ready (rs := [15]) (by kernel_rfl) (by simp) ?_
  refine AllReadyT.cons (o := _) rfl (fun K hK => ?_) (by kernel_rfl) AllReadyT.nil
  go_simp
  refine hK.out _ _ (fun _ => HS2.out) (fun hHeld => ?_)
  clear hK K
  try simp only [Act.put, List.setIfInBounds_toArray, List.set_cons_zero, List.set_cons_succ]
  refine wpAnyT_ready (rs := [16]) (by kernel_rfl) (by simp) ?_
  refine AllReadyT.last (o := _) rfl (fun K hK => ?_) (by kernel_rfl)
  go_simp
  refine hK.out _ _ ?_
  clear hK K
  try simp only [Act.put]
  refine wpAnyT_done (by kernel_rfl) ?_ _
  refine NoPanic.normal ?_
  exact HQ.out _ _ _ _ _ _ _ _ _ _ _ _ _ _ _ _ g2 cap2 w6 HP.out.1 HP.out.2.1 HP.out.2.2
end Go.Proofs.Ytlhakobfjokabaa
