/-
  The contract of expand.
-/
import Derived.Test.YtlhakobfjokabaaReg25
namespace Go.Proofs.Ytlhakobfjokabaa
open Go.RowKit

/-- One word more. -/
def ext (g : Nat → Nat) (i : Nat) (v : Nat → Nat) : Nat → Nat := fun j => if j / 4 = i then v (j % 4) else g j
/-- What the word before comes to. -/
def stepW (T g : Nat → Nat) (p n i : Nat) : Nat × (Nat → Nat) :=
  if i % n = 0 then (mul p 2, fun k => T (g (4 * (i - 1) + (k + 1) % 4)) ^^^ if k = 0 then p else 0)
  else if n = 8 ∧ i % n = 4 then (p, fun k => T (g (4 * (i - 1) + k)))
  else (p, fun k => g (4 * (i - 1) + k))
/-- The key's words, byte by byte, after so many. -/
def ex (T key : Nat → Nat) (n : Nat) : Nat → Nat × (Nat → Nat)
  | 0 => (1, fun _ => 0)
  | i + 1 =>
    if i < n then ((ex T key n i).1, ext (ex T key n i).2 i fun k => key (4 * i + k))
    else ((stepW T (ex T key n i).2 (ex T key n i).1 n i).1, ext (ex T key n i).2 i fun k => (stepW T (ex T key n i).2 (ex T key n i).1 n i).2 k ^^^ (ex T key n i).2 (4 * (i - n) + k))
theorem stepW_lt (T g : Nat → Nat) (p n i : Nat) (hT : ∀ j, T j < 256) (hg : ∀ j, g j < 256) (hp : p < 256) : (stepW T g p n i).1 < 256 ∧ ∀ k, (stepW T g p n i).2 k < 256 := by
  unfold stepW
  split
  · refine ⟨mul_lt p 2 hp, fun k => Nat.xor_lt_two_pow (n := 8) (hT _) ?_⟩
    split
    · exact hp
    · decide
  · split
    · exact ⟨hp, fun k => hT _⟩
    · exact ⟨hp, fun k => hg _⟩
theorem ext_lt (g : Nat → Nat) (i : Nat) (v : Nat → Nat) (hg : ∀ j, g j < 256) (hv : ∀ j, v j < 256) (j : Nat) : ext g i v j < 256 := by
  unfold ext
  split
  · exact hv _
  · exact hg _
theorem ex_lt (T key : Nat → Nat) (n : Nat) (hT : ∀ j, T j < 256) (hk : ∀ j, key j < 256) : ∀ i, (ex T key n i).1 < 256 ∧ ∀ j, (ex T key n i).2 j < 256
  | 0 => ⟨by show 1 < 256; decide, fun _ => by show 0 < 256; decide⟩
  | i + 1 => by
    obtain ⟨h1, h2⟩ := ex_lt T key n hT hk i
    have h3 := stepW_lt T _ _ n i hT h2 h1
    rw [ex]
    split
    · exact ⟨h1, fun j => ext_lt _ _ _ h2 (fun k => hk _) j⟩
    · exact ⟨h3.1, fun j => ext_lt _ _ _ h2 (fun k => Nat.xor_lt_two_pow (n := 8) (h3.2 k) (h2 _)) j⟩
theorem arr_ext (g : Nat → Nat) (i : Nat) (v : Nat → Nat) : (arr (4 * i) g).toList ++ (arr 4 v).toList = (arr (4 * (i + 1)) (ext g i v)).toList := by
  rw [show 4 * (i + 1) = 4 * i + 4 from rfl, ← arr_app]
  congr 2
  · exact arr_congr fun j hj => by unfold ext; rw [if_neg (by omega)]
  · exact arr_congr fun j hj => by
      unfold ext
      rw [if_pos (by omega), show (4 * i + j) % 4 = j by omega]

/-- A cipher in memory. -/
structure Ciph (w : World) (C r : Nat) (v : Value) (S B : Nat → Nat) : Prop where
  c0 : w.cell? ⟨C, 0, none⟩ = some (.int .i64 r)
  c1 : w.cell? ⟨C, 1, none⟩ = some v
  f1 : w.frozen? ⟨C, 1, none⟩ = false
  s : ∀ j, j < 256 → w.cell? ⟨C, 2 + j, none⟩ = some (.int .u8 (S j))
  b : ∀ j, j < 256 → w.cell? ⟨C, 258 + j, none⟩ = some (.int .u8 (B j))
theorem Upd.frozen {S : Nat → Prop} {w w' : World} (hu : Upd S w w') {p : Addr} (h : p.block < w.heap.size) (hn : ¬ S p.block) : w'.frozen? p = w.frozen? p :=
  World.frozen?_of_block (w := w) (hu.block p.block h hn)
theorem Ciph.lt {w : World} {C r : Nat} {v : Value} {S B : Nat → Nat} (h : Ciph w C r v S B) : C < w.heap.size := cell_lt h.c0
theorem Ciph.keep {w w' : World} {C r : Nat} {v : Value} {S B : Nat → Nat} (h : Ciph w C r v S B) {T : Nat → Prop} (hu : Upd T w w') (hn : ¬ T C) : Ciph w' C r v S B :=
  ⟨hu.cell h.c0 hn, hu.cell h.c1 hn, (hu.frozen (p := ⟨C, 1, none⟩) h.lt hn).trans h.f1, fun j hj => hu.cell (h.s j hj) hn, fun j hj => hu.cell (h.b j hj) hn⟩
theorem owns_range {w : World} {base e b i cap : Nat} {g : Nat → Nat} (h : w.ownsRow base e 4 (.slice (some ⟨b, 0, none⟩) i cap) i (arr (4 * i) g).toList) (o m : Nat) (hm : o + m ≤ 4 * i) : w.rangeAt b o (arr m fun j => g (o + j)).toList := fun j v hv => by
  have hj : j < m := by have := (List.getElem?_eq_some_iff.1 hv).1; simpa [arr_size] using this
  have := h.cells (g := b) rfl (o + j) (.int .u8 (g (o + j))) (by rw [Array.getElem?_toList, arr_at _ _ _ (by omega)])
  rw [Addr.add_mid, Nat.zero_add] at this
  rw [this, ← hv, Array.getElem?_toList, arr_at _ _ _ hj]
theorem owns_form {w : World} {base e size n : Nat} {v : Value} {xs : List Value} (h : w.ownsRow base e size v n xs) (hn : 0 < n) : ∃ g cap, v = .slice (some ⟨g, 0, none⟩) n cap ∧ base ≤ g ∧ g < w.heap.size ∧ n ≤ cap := by
  rcases h.2 with ⟨_, h0⟩ | ⟨g, cap, cur, rfl, hb, hgg, hc, _⟩
  · omega
  · exact ⟨g, cap, rfl, hb, heap_lt hgg, hc⟩
theorem owns_upd2 {S : Nat → Prop} {w w' : World} {base e size : Nat} {v : Value} {n : Nat} {xs : List Value} (h : w.ownsRow base e size v n xs) (hu : Upd S w w') (hn : ∀ g, v.ownBlock = some g → ¬ S g) : w'.ownsRow base e size v n xs := by
  refine ⟨h.1, ?_⟩
  rcases h.2 with h2 | ⟨g, cap, cur, rfl, hb, hgg, rest⟩
  · exact .inl h2
  · exact .inr ⟨g, cap, cur, rfl, hb, (hu.block g (heap_lt hgg) (hn g rfl)).trans hgg, rest⟩
/-- What a conversion of a string to bytes leaves. -/
theorem conv_bytes (w : World) (s : ByteArray) : ∃ (W1 : World) (cap : Nat), (convert 9 31 (.string s)).run Try.prog w = .ok (.slice (some ⟨w.heap.size, 0, none⟩) s.size cap) W1 ∧
    (∀ i (h : i < s.size), W1.cell? ⟨w.heap.size, i, none⟩ = some (.int .u8 (s[i].toNat : Int))) ∧ Below w.heap.size w W1 ∧ w.heap.size < W1.heap.size := by
  refine ⟨_, _, run_bytes_of_string w 9 31 5 s Try.underlying9 Try.underlying31 Try.underlying5, ?_, ?_, ?_⟩
  · intro i h
    have := World.cell?_alloc_mark w.drew (bytesRow s (grownCap w s.size 0 5)) 5 ((bytesRow s (grownCap w s.size 0 5)).size, (bytesRow s (grownCap w s.size 0 5)).size + 1) i
    rw [show w.drew.heap.size = w.heap.size from rfl] at this
    rw [this, bytesRow_at s _ i h]
    rfl
  · exact (Below.refl _ _).drew.alloc (Nat.le_refl _) _
  · show w.heap.size < (w.heap.push _).size
    simp
theorem byt_extract (s : ByteArray) (o m j : Nat) (hj : j < m) (ho : o + m ≤ s.size) (h : j < (s.extract o (o + m)).size) : (s.extract o (o + m))[j].toNat = byt s (o + j) := by
  rw [← byt_at s (o + j) (by omega)]
  congr 1
  simp [ByteArray.getElem_extract]
theorem arr_at4 (a : Addr) (n cap : Nat) (hn : 4 ≤ n) (w : World) : (Instr.arrayAt 53 (.slice (some a) n cap)).run Try.prog w = .ok (.pointer (some a)) w := by
  have h1 : ¬ n < 4 := by omega
  simp [Instr.arrayAt, run_underlying Try.underlying53, go_sem, h1]
theorem fold4 (f : Nat → Nat) : Array.foldl (fun cs (x : Value × Nat) => cs.setIfInBounds x.snd x.fst) #[.int .u8 0, .int .u8 0, .int .u8 0, .int .u8 0] (arr 4 f).zipIdx 0 4 = arr 4 f := by rfl
theorem info53 : (Try.prog.info? 53).map (fun i => (i.zero, i.size, i.bytes)) = some (some (.agg #[.int .u8 0, .int .u8 0, .int .u8 0, .int .u8 0]), 4, 4) := by kernel_rfl
theorem owns_cell {w : World} {base e b i cap : Nat} {g : Nat → Nat} (h : w.ownsRow base e 4 (.slice (some ⟨b, 0, none⟩) i cap) i (arr (4 * i) g).toList) (j : Nat) (hj : j < 4 * i) : w.cell? ⟨b, j, none⟩ = some (.int .u8 (g j)) := by
  have := owns_range h j 1 (by omega) 0 (.int .u8 (g (j + 0))) (by simp [arr, u8])
  simpa using this
theorem owns_lt {w : World} {base e size n b k cap : Nat} {xs : List Value} (h : w.ownsRow base e size (.slice (some ⟨b, 0, none⟩) k cap) n xs) : b < w.heap.size := (h.lt b rfl).2
/-- What expand has in memory after so many words. -/
structure ExpR (w wr : World) (C r : Nat) (S B g : Nat → Nat) (v : Value) (i : Nat) : Prop where
  c : Ciph wr C r (.slice none 0 0) S B
  o : wr.ownsRow w.heap.size 53 4 v i (arr (4 * i) g).toList
  u : Below w.heap.size w wr
theorem Upd.above' {S T : Nat → Prop} {w w2 w3 : World} (h : Upd S w w2) (k : Upd T w2 w3) (hT : ∀ i, T i → w.heap.size ≤ i) : Upd S w w3 :=
  ⟨k.os.trans h.os, k.tape.trans h.tape, k.output.trans h.output, Nat.le_trans h.size k.size, fun i hi hs => (k.block i (Nat.lt_of_lt_of_le hi h.size) (fun e => by have := hT i e; omega)).trans (h.block i hi hs)⟩
/-- What the second loop has in memory. -/
structure FinR (w wr : World) (C r : Nat) (S B G : Nat → Nat) (gb k cap t : Nat) (v : Value) : Prop where
  c : Ciph wr C r v S B
  s : wr.ownsRow w.heap.size 55 16 v t (arr (16 * t) G).toList
  o : wr.ownsRow w.heap.size 53 4 (.slice (some ⟨gb, 0, none⟩) k cap) k (arr (4 * k) G).toList
  u : Upd (· = C) w wr
  ne : v.ownBlock ≠ some gb
theorem FinR.next {w wr w6 : World} {C r : Nat} {S B G : Nat → Nat} {gb k cap t : Nat} {v : Value} {g2 cap2 : Nat} {o : Obj} (hC : C < w.heap.size) (h : FinR w wr C r S B G gb k cap t v) (hgl : gb < wr.heap.size)
    (hn : w6.ownsRow w.heap.size 55 16 (.slice (some ⟨g2, 0, none⟩) (t + 1) cap2) (t + 1) ((arr (16 * t) G).toList ++ (arr 16 fun j => G (4 * t * 4 + j)).toList)) (hg : (wr.alloc o).drew.grownBy w6 v.ownBlock) (hat : v.ownBlock = some g2 ∨ g2 = wr.heap.size + 1) :
    FinR w (w6.setCell ⟨C, 1, none⟩ (.slice (some ⟨g2, 0, none⟩) (t + 1) cap2)) C r S B G gb k cap (t + 1) (.slice (some ⟨g2, 0, none⟩) (t + 1) cap2) := by
  have hug : Upd (fun k => some k = v.ownBlock) wr w6 := ((upd_alloc _ wr o).trans (upd_drew _ _)).trans ⟨hg.os, hg.tape, hg.output, hg.size, hg.block⟩
  have hCv : ¬ some C = v.ownBlock := fun e => by have := (h.s.lt _ e.symm).1; omega
  have hgv : ¬ some gb = v.ownBlock := fun e => h.ne e.symm
  have hc := h.c.keep hug hCv
  have hCl : ∀ {e size n : Nat} {x : Value} {xs : List Value}, w6.ownsRow w.heap.size e size x n xs → (w6.setCell ⟨C, 1, none⟩ (.slice (some ⟨g2, 0, none⟩) (t + 1) cap2)).ownsRow w.heap.size e size x n xs := fun hx =>
    owns_upd2 hx (upd_setCell w6 ⟨C, 1, none⟩ _) (fun g e => by have := (hx.lt g e).1; show ¬ g = C; omega)
  refine ⟨⟨?_, ?_, ?_, fun j hj => ?_, fun j hj => ?_⟩, ?_, hCl (owns_upd2 h.o hug (fun g e => by simp [Value.ownBlock] at e; subst e; exact hgv)), ?_, ?_⟩
  · rw [World.cell?_setCell_other _ _ _ _ (by simp)]; exact hc.c0
  · exact World.cell?_setCell_same _ _ _ hc.c1
  · rw [World.frozen?_setCell]; exact hc.f1
  · rw [World.cell?_setCell_other _ _ _ _ (by simp)]; exact hc.s j hj
  · rw [World.cell?_setCell_other _ _ _ _ (by simp)]; exact hc.b j hj
  · have e : (arr (16 * t) G).toList ++ (arr 16 fun j => G (4 * t * 4 + j)).toList = (arr (16 * (t + 1)) G).toList := by
      rw [show 16 * (t + 1) = 16 * t + 16 from rfl, ← arr_app, show 4 * t * 4 = 16 * t by omega]
    rw [e] at hn
    exact hCl hn
  · have h1 : Upd (· = C) w w6 := (h.u.above' hug (fun k e => (h.s.lt k e.symm).1))
    exact h1.trans (upd_setCell w6 ⟨C, 1, none⟩ _)
  · intro e
    simp [Value.ownBlock] at e
    subst e
    rcases hat with h1 | h1
    · exact h.ne h1
    · omega
theorem ExpR.upd {w w5 w6 : World} {C r : Nat} {S B g : Nat → Nat} {gb k n cap : Nat} {T : Nat → Prop} (h : ExpR w w5 C r S B g (.slice (some ⟨gb, 0, none⟩) n cap) k) (hu : Upd T w5 w6) (hC : ¬ T C) (hg : ¬ T gb) (hT : ∀ k, T k → w.heap.size ≤ k) :
    ExpR w w6 C r S B g (.slice (some ⟨gb, 0, none⟩) n cap) k :=
  ⟨h.c.keep hu hC, owns_upd2 h.o hu (fun g e => by simp [Value.ownBlock] at e; subst e; exact hg), h.u.trans (hu.below h.u.size hT)⟩
theorem ExpR.next {w w5 w6 : World} {C r : Nat} {S B g' : Nat → Nat} {v v' : Value} {k : Nat} {xs : List Value} (hC : C < w.heap.size) (hc : Ciph w5 C r (.slice none 0 0) S B) (hu : Below w.heap.size w w5)
    (ho : w5.ownsRow w.heap.size 53 4 v k xs) (hn : w6.ownsRow w.heap.size 53 4 v' (k + 1) (arr (4 * (k + 1)) g').toList) (hg : w5.grownBy w6 v.ownBlock) : ExpR w w6 C r S B g' v' (k + 1) := by
  have hug : Upd (fun k => some k = v.ownBlock) w5 w6 := ⟨hg.os, hg.tape, hg.output, hg.size, hg.block⟩
  refine ⟨hc.keep hug (fun e => ?_), hn, hu.trans (hug.below hu.size fun k e => (ho.lt _ e.symm).1)⟩
  have := (ho.lt _ e.symm).1; omega

set_option maxHeartbeats 2000000 in
set_option maxRecDepth 100000 in
theorem expand_words (C n : Nat) (S B : Nat → Nat) (key : ByteArray) (w : World) (hn : n = 4 ∨ n = 8) (hk : key.size = 4 * n) (hS : ∀ j, S j < 256) (hc : Ciph w C (n + 6) (.slice none 0 0) S B) :
    Calls Try.prog 25 #[.pointer (some ⟨C, 0, none⟩), .string key] w fun e w' => e = .returned (.tuple #[]) ∧ ∃ v, Ciph w' C (n + 6) v S B ∧
      w'.ownsRow w.heap.size 55 16 v (n + 7) (arr (16 * (n + 7)) (ex S (byt key) n (4 * (n + 7))).2).toList ∧ Upd (· = C) w w' := by
  obtain ⟨i1, hi, hz0, hz1, hz2⟩ := info_parts info53
  have HI := Lib.hid (And.intro hi (And.intro hz0 (And.intro hz1 hz2))); clear hi hz0 hz1 hz2
  have hcl := hc.lt
  have c0 := hc.c0
  have HS := Lib.hid hS; clear hS
  have HK := Lib.hid hk
  have hks : key.size = 16 ∨ key.size = 32 := by omega
  have hkq : (key.size : Int) / 4 = (n : Int) := by omega
  have hkw : IntKind.i64.wrap (n : Int) = (n : Int) := by rw [IntKind.wrap_i64]; omega
  have hkb : (key.size : Int) ≤ 32 := by omega
  have HC := Lib.hid (show ExpR w w C (n + 6) S B (fun _ => 0) (.slice none 0 0) 0 from ⟨hc, World.ownsRow_nil _ _ _ _, Below.refl _ _⟩)
  clear hks hc hk
  have hn8 : (n : Int) ≤ 8 := by omega
  go_enter Try.func25, Try.ntmps25
  go_upto_region 4 with (fail)
  clear c0 hkq hkw
  go_loopw [5, 6, 20] (fun v p i wr => ∃ k : Nat, k ≤ 4 * (n + 7) ∧ i = .int .i64 k ∧ p = .int .u8 (ex S (byt key) n k).1 ∧ ExpR w wr C (n + 6) S B (ex S (byt key) n k).2 v k) (fun _ _ i _ => 4 * (n + 7) - (intOf i).toNat)
  case atStart => exact ⟨0, by omega, rfl, rfl, HC.out⟩
  case round =>
    obtain ⟨k, hk, rfl, rfl, hr⟩ := hrel
    have HR := Lib.hid hr
    have HLT := Lib.hid (ex_lt S (byt key) n HS.out (byt_lt key) k)
    rename_i wr
    clear hr HC
    by_cases hk4 : k < 4 * (n + 7)
    · have hk0 : (k : Int) < 4 * ((n : Int) + 6 + 1) := by omega
      by_cases hkn : k < n
      · have hkn0 : (k : Int) < (n : Int) := by omega
        have HX := Lib.hid (show ex S (byt key) n (k + 1) = ((ex S (byt key) n k).1, ext (ex S (byt key) n k).2 k fun j => byt key (4 * k + j)) from by rw [ex, if_pos hkn])
        go_upto_region 7 with (fail)
        have hk2 : 4 * (k : Int) + 4 ≤ (key.size : Int) := by have := HK.out; omega
        have hw1 : IntKind.i64.wrap (4 * (k : Int)) = 4 * (k : Int) := by rw [IntKind.wrap_i64]; omega
        have hw2 : IntKind.i64.wrap (4 * (k : Int) + 4) = 4 * (k : Int) + 4 := by rw [IntKind.wrap_i64]; omega
        obtain ⟨W1, cap, hconv, hcell, hbel, hsz⟩ := conv_bytes wr (key.extract (4 * k) (4 * k + 4))
        have hes : (key.extract (4 * k) (4 * k + 4)).size = 4 := by simp; have := HK.out; omega
        rw [hes] at hconv
        have hr4 : W1.rangeAt wr.heap.size 0 (arr 4 fun j => byt key (4 * k + j)).toList := by
          intro j v hv
          have hj : j < 4 := by have := (List.getElem?_eq_some_iff.1 hv).1; simpa [arr_size] using this
          rw [Nat.zero_add, hcell j (by omega), ← hv, Array.getElem?_toList, arr_at _ _ _ hj, byt_extract key (4 * k) 4 j hj (by have := HK.out; omega) (by omega)]
        have HR4 := Lib.hid (And.intro hr4 (And.intro hbel hsz))
        have harr := arr_at4 ⟨wr.heap.size, 0, none⟩ 4 cap (Nat.le_refl _)
        clear hcell hbel hsz hes hr4
        have hfold := fold4 fun j => byt key (4 * k + j)
        have hs4 := arr_size 4 fun j => byt key (4 * k + j)
        have HB4 := Lib.hid (Blk.new W1 53 4 fun j => byt key (4 * k + j))
        have hbw := HR4.out.2.1
        have HOW := Lib.hid ((owns_upd2 HR.out.o (upd_of_below (S := fun _ => False) hbw) (fun _ _ h => h)).alloc (.cells (arr 4 fun j => byt key (4 * k + j)) 53))
        have HCW := Lib.hid (HR.out.c.keep ((upd_of_below (S := fun _ => False) hbw).trans (upd_alloc _ W1 (.cells (arr 4 fun j => byt key (4 * k + j)) 53))) (fun h => h))
        have HUW := Lib.hid ((HR.out.u.trans (hbw.mono HR.out.u.size)).alloc (Nat.le_trans HR.out.u.size hbw.size) (.cells (arr 4 fun j => byt key (4 * k + j)) 53))
        clear hbw
        go_wp2_with (first
          | (refine wpList_load_mid rfl 53 (.tmp 35) rfl wr.heap.size 0 rfl (arr 4 fun j => byt key (4 * k + j)).toList _ HR4.out.1 Try.underlying53 rfl (i53l _) ?_)
          | (at_builtin; refine wpList_append_own _ rfl _ _ 66 rfl w.heap.size 53 i1 _ 4 4 Try.underlying66 HI.out.1 HI.out.2.1 HI.out.2.2.1 HI.out.2.2.2 rfl (by decide) _ k _ rfl HOW.out ⟨W1.heap.size, 0, none⟩ 1 1 (arr 4 fun j => byt key (4 * k + j)).toList rfl (by simp [arr]) (cells_add HB4.out) (list_one _ _) ?c3 ?c4 HUW.out.size ?_))
        case c3 => unfold maxLen; omega
        case c4 => omega
        intro v' w6 hown' hgrow _
        rw [arr_ext] at hown'
        have HN := Lib.hid (ExpR.next (g' := (ex S (byt key) n (k + 1)).2) hcl HCW.out HUW.out HOW.out (by rw [HX.out]; exact hown') hgrow)
        clear hown' hgrow hfold hs4 harr hconv
        go_wp2_with fail
        go_roundw
        case rel => exact ⟨k + 1, by omega, by go_num, by rw [HX.out], HN.out⟩
        case measure => simp [intOf]; omega
      · have hkn0 : ¬ (k : Int) < (n : Int) := by omega
        obtain ⟨m, rfl⟩ : ∃ m, k = m + 1 := ⟨k - 1, by omega⟩
        have HX := Lib.hid (show ex S (byt key) n (m + 1 + 1) = ((stepW S (ex S (byt key) n (m + 1)).2 (ex S (byt key) n (m + 1)).1 n (m + 1)).1, ext (ex S (byt key) n (m + 1)).2 (m + 1) fun j => (stepW S (ex S (byt key) n (m + 1)).2 (ex S (byt key) n (m + 1)).1 n (m + 1)).2 j ^^^ (ex S (byt key) n (m + 1)).2 (4 * (m + 1 - n) + j)) from by rw [ex, if_neg hkn])
        generalize hpe : (ex S (byt key) n (m + 1)).1 = P at *
        generalize hge : (ex S (byt key) n (m + 1)).2 = G at *
        clear hpe hge
        obtain ⟨gb, cap, rfl, hgb, hgl, hgc⟩ := owns_form HR.out.o (by omega)
        have hr4 := owns_range HR.out.o (m * 4) 4 (by omega)
        have HR4 := Lib.hid hr4; clear hr4
        have hb0 := Blk.new wr 53 4 fun _ => 0
        have HB0 := Lib.hid hb0
        have HB1 := Lib.hid (hb0.setRow fun j => G (m * 4 + j))
        have hu5 := (upd_alloc (fun _ => False) wr (.cells (arr 4 fun _ => 0) 53)).above ((upd_setRow _ wr.heap.size (arr 4 fun j => G (m * 4 + j))).mono (T := fun k => wr.heap.size ≤ k) fun k _ hk => by omega)
        have HR5 := Lib.hid (show ExpR w _ C (n + 6) S B G _ (m + 1) from ⟨HR.out.c.keep hu5 (fun h => h), owns_upd2 HR.out.o hu5 (fun _ _ h => h), HR.out.u.trans (hu5.below HR.out.u.size (fun _ h => h.elim))⟩)
        have hwsz : w.heap.size ≤ wr.heap.size := HR.out.u.size
        clear hb0 hu5
        have hm9 : (m : Int) ≤ 60 := by omega
        have hkn1 : ¬ (m : Int) + 1 < (n : Int) := by omega
        have hcapi : (m : Int) + 1 ≤ (cap : Int) := by omega
        go_upto_block 2 with (first
          | (refine wpList_load_mid rfl 53 (.tmp 42) rfl gb (m * 4) rfl (arr 4 fun j => G (m * 4 + j)).toList _ HR4.out Try.underlying53 rfl (i53l _) ?_)
          | (rw [zeros4]; refine wpList_store_row rfl 53 (.tmp 8) (.tmp 43) rfl wr.heap.size (arr 4 fun j => G (m * 4 + j)) rfl rfl 53 _ HB0.out (size16 53 i53 _) (by rw [arr_size, arr_size]) (arr_one _ _) ?_))
        generalize World.setRow (World.alloc wr _) _ _ = w5 at *
        simp only [Act.put]
        have HST := Lib.hid (stepW_lt S G P n (m + 1) HS.out HLT.out.2 HLT.out.1)
        go_cut [6] (fun s6 wx => s6 = .int .u8 (stepW S G P n (m + 1)).1 ∧ Blk wx wr.heap.size 53 4 (stepW S G P n (m + 1)).2 ∧ ExpR w wx C (n + 6) S B G (.slice (some ⟨gb, 0, none⟩) (m + 1) cap) (m + 1) ∧ wr.heap.size ≠ gb)
        case first =>
          obtain ⟨q, hq⟩ : ∃ q, q = (m + 1) % n := ⟨_, rfl⟩
          have hmd1 : ((m : Int) + 1).tmod (n : Int) = (q : Int) := by
            rw [Int.tmod_eq_emod_of_nonneg (by omega), hq]
            rcases hn with rfl | rfl <;> omega
          have hmd2 : ((m : Int) + 1) % (n : Int) = (q : Int) := by
            rw [hq]
            rcases hn with rfl | rfl <;> omega
          have hne : wr.heap.size ≠ gb := by omega
          have hCw : ¬ C = wr.heap.size := by omega
          have HNE := Lib.hid (And.intro hne hCw); clear hne hCw
          by_cases h0 : q = 0
          · have HSW := Lib.hid (show stepW S G P n (m + 1) = (mul P 2, fun k => S (G (4 * m + (k + 1) % 4)) ^^^ if k = 0 then P else 0) from by rw [stepW, if_pos (by omega)]; rfl)
            have hb0 : ((q : Int) == 0) = true := by rw [beq_iff_eq]; omega
            have hword := fun (w : World) (hT : ∀ j, j < 256 → w.cell? ⟨C, 2 + j, none⟩ = some (.int .u8 (S j))) => word_any C (fun k => G (4 * m + (k + 1) % 4)) S w (fun _ => HLT.out.2 _) hT
            rw [show arr 4 (fun k => G (4 * m + (k + 1) % 4)) = #[.int .u8 (G (4 * m + 1)), .int .u8 (G (4 * m + 2)), .int .u8 (G (4 * m + 3)), .int .u8 (G (4 * m + 0))] from rfl] at hword
            have HW := Lib.hid hword; clear hword
            have x0 := HB1.out.cell (j := 0) (by omega)
            have x1 := HB1.out.cell (j := 1) (by omega)
            have x2 := HB1.out.cell (j := 2) (by omega)
            have x3 := HB1.out.cell (j := 3) (by omega)
            rw [show m * 4 + 0 = 4 * m + 0 by omega] at x0
            rw [show m * 4 + 1 = 4 * m + 1 by omega] at x1
            rw [show m * 4 + 2 = 4 * m + 2 by omega] at x2
            rw [show m * 4 + 3 = 4 * m + 3 by omega] at x3
            clear hq h0
            go_wp2_with fail
            refine (HW.out _ HR5.out.c.s).mono ?_
            rintro e w6 ⟨rfl, hb6⟩
            have hu6 := upd_of_below (S := fun _ => False) hb6
            have HR6 := Lib.hid (HR5.out.upd hu6 (fun h => h) (fun h => h) (fun _ h => h.elim))
            have HB6 := Lib.hid (HB1.out.keep hu6 (fun h => h))
            clear x0 x1 x2 x3 hb6 hu6
            generalize hfe : (fun j => S (G (4 * m + (j + 1) % 4))) = F at *
            have HFE := Lib.hid hfe; clear hfe
            have HB7 := Lib.hid (HB6.out.setRow F)
            have HR7 := Lib.hid (HR6.out.upd (upd_setRow w6 wr.heap.size (arr 4 F)) HNE.out.2 (fun e => HNE.out.1 e.symm) (fun k e => by omega))
            go_upto_region 11 with (refine wpList_store_row rfl 53 (.tmp 8) (.tmp 59) rfl wr.heap.size (arr 4 F) rfl rfl 53 _ HB6.out (size16 53 i53 _) (by rw [arr_size, arr_size]) (arr_one _ _) ?_)
            generalize World.setRow w6 _ _ = w7 at *
            have hc := HB7.out.cell (j := 0) (by omega)
            have hf := HB7.out.free 0
            have hF0 : F 0 < 256 := by rw [← HFE.out]; exact HS.out _
            have hP := HLT.out.1
            have hx : bits .xor .u8 (F 0 : Int) (P : Int) = ((F 0 ^^^ P : Nat) : Int) := u8_xor_nat _ _ hF0 hP
            have HB8 := Lib.hid (HB7.out.set 0 (F 0 ^^^ P))
            have HR8 := Lib.hid (HR7.out.upd (upd_setCell w7 ⟨wr.heap.size, 0, none⟩ (.int .u8 (F 0 ^^^ P : Nat))) HNE.out.2 (fun e => HNE.out.1 e.symm) (fun k e => by simp at e; omega))
            go_upto_region 12 with (fail)
            generalize World.setCell w7 _ _ = w8 at *
            clear hc hf hx
            go_wp2_with fail
            refine (Times_any P 2 _ hP (by decide)).mono ?_
            rintro e w9 ⟨rfl, rfl⟩
            go_wp2_with fail
            go_meet
            refine ⟨by rw [HSW.out], ?_, HR8.out, HNE.out.1⟩
            rw [HSW.out]
            exact HB8.out.congr fun j _ => by
              rw [← HFE.out]
              unfold put
              by_cases hj : j = 0
              · subst hj; simp
              · simp [hj]
          · by_cases h8 : n = 8 ∧ q = 4
            · have HSW := Lib.hid (show stepW S G P n (m + 1) = (P, fun k => S (G (4 * m + k))) from by rw [stepW, if_neg (by omega), if_pos (by omega)]; rfl)
              have hb0 : ((q : Int) == 0) = false := by rw [beq_eq_false_iff_ne]; omega
              have hb1 : ((n : Int) == 8) = true := by rw [beq_iff_eq]; omega
              have hb2 : ((q : Int) == 4) = true := by rw [beq_iff_eq]; omega
              have hword := fun (w : World) (hT : ∀ j, j < 256 → w.cell? ⟨C, 2 + j, none⟩ = some (.int .u8 (S j))) => word_any C (fun k => G (m * 4 + k)) S w (fun _ => HLT.out.2 _) hT
              have HW := Lib.hid hword; clear hword
              clear hq h0 h8
              go_wp2_with (refine wpList_load_row rfl 53 (.tmp 8) rfl wr.heap.size rfl 53 (arr 4 fun j => G (m * 4 + j)) (0, 0) _ HB1.out Try.underlying53 rfl (size16 53 i53 _) ?_)
              refine (HW.out _ HR5.out.c.s).mono ?_
              rintro e w6 ⟨rfl, hb6⟩
              have hu6 := upd_of_below (S := fun _ => False) hb6
              have HR6 := Lib.hid (HR5.out.upd hu6 (fun h => h) (fun h => h) (fun _ h => h.elim))
              have HB6 := Lib.hid (HB1.out.keep hu6 (fun h => h))
              clear hb6 hu6
              have HB7 := Lib.hid (HB6.out.setRow fun j => S (G (m * 4 + j)))
              have HR7 := Lib.hid (HR6.out.upd (upd_setRow w6 wr.heap.size (arr 4 fun j => S (G (m * 4 + j)))) HNE.out.2 (fun e => HNE.out.1 e.symm) (fun k e => by omega))
              go_wp2_with (refine wpList_store_row rfl 53 (.tmp 8) (.tmp 78) rfl wr.heap.size (arr 4 fun j => S (G (m * 4 + j))) rfl rfl 53 _ HB6.out (size16 53 i53 _) (by rw [arr_size, arr_size]) (arr_one _ _) ?_)
              go_meet
              refine ⟨by rw [HSW.out], ?_, HR7.out, HNE.out.1⟩
              rw [HSW.out]
              exact HB7.out.congr fun j _ => by rw [Nat.mul_comm m 4]
            · have HSW := Lib.hid (show stepW S G P n (m + 1) = (P, fun k => G (4 * m + k)) from by rw [stepW, if_neg (by omega), if_neg (by omega)]; rfl)
              have hb0 : ((q : Int) == 0) = false := by rw [beq_eq_false_iff_ne]; omega
              by_cases h88 : n = 8
              · have hb1 : ((n : Int) == 8) = true := by rw [beq_iff_eq]; omega
                have hb2 : ((q : Int) == 4) = false := by rw [beq_eq_false_iff_ne]; omega
                clear hq h0 h8 h88
                go_wp2_with fail
                go_meet
                refine ⟨by rw [HSW.out], ?_, HR5.out, HNE.out.1⟩
                rw [HSW.out]
                exact HB1.out.congr fun j _ => by rw [Nat.mul_comm m 4]
              · have hb1 : ((n : Int) == 8) = false := by rw [beq_eq_false_iff_ne]; omega
                clear hq h0 h8 h88
                go_wp2_with fail
                go_meet
                refine ⟨by rw [HSW.out], ?_, HR5.out, HNE.out.1⟩
                rw [HSW.out]
                exact HB1.out.congr fun j _ => by rw [Nat.mul_comm m 4]
        case rest =>
          obtain ⟨rfl, hbk, hr, hne⟩ := hcut
          obtain ⟨d, hd⟩ : ∃ d, d = m + 1 - n := ⟨_, rfl⟩
          rw [← hd] at HX
          generalize stepW S G P n (m + 1) = SW at *
          obtain ⟨P2, H⟩ := SW
          have hd1 : (m : Int) + 1 - (n : Int) = (d : Int) := by omega
          have hd2 : (d : Int) < (m : Int) + 1 := by omega
          have hd3 : (d : Int) < ((m + 1 : Nat) : Int) := by omega
          have hd4 : IntKind.i64.wrap ((m : Int) + 1 - (n : Int)) = (d : Int) := by rw [IntKind.wrap_i64]; omega
          have hd5 : IntKind.i64.wrap (d : Int) = (d : Int) := by rw [IntKind.wrap_i64]; omega
          have HW8 := Lib.hid (show wr.heap.size ≠ gb ∧ C ≠ wr.heap.size ∧ d * 4 + 4 ≤ 4 * (m + 1) from ⟨hne, by omega, by omega⟩)
          have HBK := Lib.hid (show Blk _ wr.heap.size 53 4 (upTo (fun j => H j ^^^ G (d * 4 + j)) H 0) from by rw [upTo_zero]; exact hbk)
          have HRR := Lib.hid hr
          clear hbk hr hne hd
          go_wp2_with fail
          go_loopw [79] (fun i wx => ∃ t : Nat, t ≤ 4 ∧ i = .int .i64 t ∧ Blk wx wr.heap.size 53 4 (upTo (fun j => H j ^^^ G (d * 4 + j)) H t) ∧ ExpR w wx C (n + 6) S B G (.slice (some ⟨gb, 0, none⟩) (m + 1) cap) (m + 1)) (fun i _ => 4 - (intOf i).toNat)
          case atStart => exact ⟨0, by omega, rfl, HBK.out, HRR.out⟩
          case round =>
            obtain ⟨t, ht, rfl, hb, hr⟩ := hrel
            have HB := Lib.hid hb
            have HR := Lib.hid hr
            by_cases ht4 : t < 4
            · have ht0 : (t : Int) < 4 := by omega
              have x1 := hb.cell (j := t) ht4
              rw [upTo_at] at x1
              have x2 := owns_cell hr.o (d * 4 + t) (by have := HW8.out.2.2; omega)
              have x3 := hb.free t
              have hx : bits .xor .u8 (H t : Int) (G (d * 4 + t) : Int) = ((H t ^^^ G (d * 4 + t) : Nat) : Int) := u8_xor_nat _ _ (HST.out.2 t) (HLT.out.2 _)
              clear hb hr
              go_upto_region 18 with (fail)
              go_still_tail 13, (by kernel_rfl)
              go_wp2_with fail
              go_roundw
              case rel => exact ⟨t + 1, by omega, by go_num, by have h := HB.out.set t (H t ^^^ G (d * 4 + t)); rw [upTo_put (fun j => H j ^^^ G (d * 4 + j)) H t] at h; exact h.drew, HR.out.upd ((upd_setCell wr ⟨_, t, none⟩ (.int .u8 (H t ^^^ G (d * 4 + t) : Nat))).trans (upd_drew _ _)) HW8.out.2.1 (fun e => HW8.out.1 e.symm) (fun k e => by simp at e; omega)⟩
              case measure => simp [intOf]; omega
            · have ht9 : t = 4 := by omega
              subst ht9
              have hbn := hb.congr (upTo_all (fun j => H j ^^^ G (d * 4 + j)) H 4)
              have HBN := Lib.hid hbn
              have hbw := upd_alloc (fun _ => False) wr (.cells (arr 4 fun j => H j ^^^ G (d * 4 + j)) 53)
              have HB4 := Lib.hid (Blk.new wr 53 4 fun j => H j ^^^ G (d * 4 + j))
              have HRW := Lib.hid (hr.upd hbw (fun h => h) (fun h => h) (fun _ h => h.elim))
              have hfold := fold4 fun j => H j ^^^ G (d * 4 + j)
              have hs4 := arr_size 4 fun j => H j ^^^ G (d * 4 + j)
              clear hb hr hbn hbw
              go_upto_region 20 with (fail)
              go_wp2_with (first
                | (refine wpList_load_row rfl 53 (.tmp 8) rfl _ rfl 53 (arr 4 fun j => H j ^^^ G (d * 4 + j)) (0, 0) _ HBN.out Try.underlying53 rfl (size16 53 i53 _) ?_)
                | (at_builtin; refine wpList_append_own _ rfl _ _ 66 rfl w.heap.size 53 i1 _ 4 4 Try.underlying66 HI.out.1 HI.out.2.1 HI.out.2.2.1 HI.out.2.2.2 rfl (by decide) _ (m + 1) _ rfl HRW.out.o ⟨wr.heap.size, 0, none⟩ 1 1 (arr 4 fun j => H j ^^^ G (d * 4 + j)).toList rfl (by simp [arr]) (cells_add HB4.out) (list_one _ _) ?c5 ?c6 HRW.out.u.size ?_))
              case c5 => unfold maxLen; omega
              case c6 => omega
              intro v' w6 hown' hgrow _
              rw [arr_ext] at hown'
              have HN := Lib.hid (ExpR.next (g' := (ex S (byt key) n (m + 1 + 1)).2) hcl HRW.out.c HRW.out.u HRW.out.o (by rw [HX.out, Nat.mul_comm 4 d]; exact hown') hgrow)
              clear hown' hgrow hfold hs4
              go_wp2_with fail
              go_roundw
              case rel => exact ⟨m + 1 + 1, by omega, by go_num, by rw [HX.out], HN.out⟩
              case measure => simp [intOf]; omega
    · have hke : k = 4 * (n + 7) := by omega
      have HKE := Lib.hid hke
      obtain ⟨gb, cap, rfl, hgb, hgl, hgc⟩ := owns_form HR.out.o (by omega)
      have hk60 : (k : Int) ≤ 60 := by omega
      have hk7 : ¬ (k : Int) < 4 * ((n : Int) + 6 + 1) := by omega
      have hgc2 : (k : Int) ≤ (cap : Int) := by omega
      have hCg : C ≠ gb := by omega
      obtain ⟨m, hm⟩ : ∃ m, m = n + 7 := ⟨_, rfl⟩
      have hkm : k = 4 * m := by omega
      have HKM := Lib.hid hkm
      have HM := Lib.hid hm
      have HF := Lib.hid (show FinR w wr C (n + 6) S B (ex S (byt key) n k).2 gb k cap 0 (.slice none 0 0) from ⟨HR.out.c, World.ownsRow_nil _ _ _ _, HR.out.o, upd_of_below HR.out.u, by simp [Value.ownBlock]⟩)
      clear hk4 hke hkm hm hk
      generalize hge : (ex S (byt key) n k).2 = G at *
      have HGE := Lib.hid hge; clear hge
      go_upto_region 22 with (fail)
      go_wp2_with fail
      go_loopw [10] (fun i wx => ∃ (t : Nat) (v : Value), t ≤ m ∧ i = .int .i64 (4 * (t : Int)) ∧ FinR w wx C (n + 6) S B G gb k cap t v) (fun i _ => k - (intOf i).toNat)
      case atStart => exact ⟨0, _, by omega, rfl, HF.out⟩
      case round =>
        obtain ⟨t, v, ht, rfl, hr⟩ := hrel
        have HR := Lib.hid hr
        clear HF
        by_cases htm : t < m
        · have htk0 : 4 * (t : Int) < (k : Int) := by have := HKM.out; omega
          have HTM := Lib.hid (show 4 * t + 4 ≤ k ∧ k ≤ cap ∧ k ≤ 1000 from ⟨by have := HKM.out; omega, by omega, by omega⟩)
          clear hr
          go_upto_region 25 with (fail)
          refine reg25 C gb k cap t w.heap.size v (fun j => G (4 * t * 4 + j)) (arr (16 * t) G).toList wr _ HTM.out.1 HTM.out.2.1 HTM.out.2.2 HR.out.c.c1 HR.out.c.f1 (owns_range HR.out.o (4 * t * 4) 16 (by have := HTM.out.1; omega)) HR.out.s HR.out.u.size hcl HR.out.ne ?_
          intro y107 y108 y109 y110 y111 y112 y113 y114 y115 y116 y117 y118 y119 y120 y121 y122 g2 cap2 w6 h1 h2 h3
          have HN := Lib.hid (FinR.next hcl HR.out (owns_lt HR.out.o) h1 h2 h3)
          clear h1 h2 h3
          go_wp2_with fail
          go_roundw
          case rel => exact ⟨t + 1, _, by omega, by go_num, HN.out⟩
          case measure => simp [intOf]; omega
        · have htm9 : t = m := by omega
          have htk0 : ¬ 4 * (t : Int) < (k : Int) := by have := HKM.out; omega
          clear hr
          go_wp2_with fail
          go_end0
          refine ⟨rfl, v, HR.out.c, ?_, HR.out.u⟩
          have hs := HR.out.s
          rw [htm9, HM.out, ← HGE.out, HKE.out] at hs
          exact hs
end Go.Proofs.Ytlhakobfjokabaa
