/-
  OutboxPlays: the walk of the law, joined.
-/
import Derived.Test.YtohjikijgcpnnaaPlays
import Derived.Deep.CutBlock
namespace Go.Proofs.Ytohjikijgcpnnaa
open Go.RowKit Go.Conc

/-- The outbox and the reference, side by side: they hold the same. -/
structure Play (w0 w : World) (B c0 c1 W k0 k1 : Nat) (p0 : Option Addr) (q0 : Nat) (p1 : Option Addr) (q1 : Nat) (L0 L1 : List ByteArray) : Prop where
  box : Box w B c0 c1 k0 k1 (strs L0) (strs L1)
  var : Four w W (.slice p0 L0.length q0) (.slice p1 L1.length q1) (.int .i64 k0) (.int .i64 k1)
  r0 : w.ownsRow (W + 1) 9 1 (.slice p0 L0.length q0) L0.length (strs L0)
  r1 : w.ownsRow (W + 1) 9 1 (.slice p1 L1.length q1) L1.length (strs L1)
  k : k0 ≤ 8 ∧ k1 ≤ 8
  fit : L0.length ≤ k0 ∧ L1.length ≤ k1
  lo : w0.heap.size ≤ B ∧ w0.heap.size ≤ c0 ∧ w0.heap.size ≤ c1
  mid : B < W ∧ c0 < W ∧ c1 < W
  below : Below w0.heap.size w0 w
theorem Play.keep {w0 w w' : World} {B c0 c1 W k0 k1 q0 q1 : Nat} {p0 p1 : Option Addr} {L0 L1 : List ByteArray} (h : Play w0 w B c0 c1 W k0 k1 p0 q0 p1 q1 L0 L1) (hu : Upd (fun _ => False) w w') : Play w0 w' B c0 c1 W k0 k1 p0 q0 p1 q1 L0 L1 :=
  ⟨h.box.keep hu (fun h => h) (fun h => h) (fun h => h), h.var.keep hu (fun h => h), owns_upd2 h.r0 hu (fun _ _ h => h), owns_upd2 h.r1 hu (fun _ _ h => h), h.k, h.fit, h.lo, h.mid, h.below.trans (hu.below h.below.size fun _ hk => hk.elim)⟩
theorem Play.setBox {w0 w w' : World} {B c0 c1 W k0 k1 q0 q1 : Nat} {p0 p1 : Option Addr} {L0 L1 : List ByteArray} (h : Play w0 w B c0 c1 W k0 k1 p0 q0 p1 q1 L0 L1) (hu : Upd (fun k => k = c0 ∨ k = c1) w w') (hb : Box w' B c0 c1 k0 k1 (strs L0) (strs L1)) : Play w0 w' B c0 c1 W k0 k1 p0 q0 p1 q1 L0 L1 := by
  have hm := h.mid
  have hl := h.lo
  refine ⟨hb, h.var.keep hu (by omega), owns_upd2 h.r0 hu (fun g hg => ?_), owns_upd2 h.r1 hu (fun g hg => ?_), h.k, h.fit, h.lo, h.mid, h.below.trans (hu.below h.below.size fun k hk => by omega)⟩
  · have := (h.r0.lt g hg).1; omega
  · have := (h.r1.lt g hg).1; omega
theorem play_start {w0 w w' : World} {B c0 c1 k0 k1 : Nat} (hb : Box w B c0 c1 k0 k1 [] []) (hk0 : k0 ≤ 8) (hk1 : k1 ≤ 8) (hl : w0.heap.size ≤ B ∧ w0.heap.size ≤ c0 ∧ w0.heap.size ≤ c1) (h0 : Below w0.heap.size w0 w) (h1 : Below w.heap.size w w') :
    Play w0 (w'.alloc (.cells #[.slice none 0 0, .slice none 0 0, .int .i64 k0, .int .i64 k1] 53)) B c0 c1 w'.heap.size k0 k1 none 0 none 0 [] [] := by
  have hz := h1.size
  have b1 := cell_lt hb.p0
  have b2 := hb.a.lt
  have b3 := hb.b.lt
  have b1 : B < w.heap.size := b1
  refine ⟨(hb.keep (upd_of_below (S := fun _ => False) h1) (fun h => h) (fun h => h) (fun h => h)).keep (upd_alloc (fun _ => False) _ _) (fun h => h) (fun h => h) (fun h => h), four_new _ _ _ _ _ _, World.ownsRow_nil _ _ _ _, World.ownsRow_nil _ _ _ _, ⟨hk0, hk1⟩, ⟨Nat.zero_le _, Nat.zero_le _⟩, hl, ⟨by omega, by omega, by omega⟩, (chain h0 h1).alloc (by have := h0.size; omega) _⟩

/-- The way on alone: no other way out. -/
def OnlyN (K : Act → World → Prop) : Exit → Act → World → Prop
  | .normal, a, w => K a w
  | _, _, _ => False
theorem OnlyN.imp {K : Act → World → Prop} {Q : Exit → Act → World → Prop} : ∀ e a w, OnlyN K e a w → Exit.then K Q e a w := fun e a w h => by
  cases e <;> first | exact h | exact (h : False).elim
theorem OnlyN.of {K : Act → World → Prop} {a : Act} {w : World} (h : K a w) : OnlyN K .normal a w := h
/-- What the reference's Put leaves. -/
def PutPost (w : World) (lo k0 k1 : Nat) (v0 v1 : Value) (M0 M1 : List ByteArray) (ok : Bool) (e : Ending) (w' : World) : Prop :=
  ∃ p q p' q', e = .returned (.tuple #[.agg #[.slice p M0.length q, .slice p' M1.length q', .int .i64 k0, .int .i64 k1], .bool ok]) ∧
    w'.ownsRow lo 9 1 (.slice p M0.length q) M0.length (strs M0) ∧ w'.ownsRow lo 9 1 (.slice p' M1.length q') M1.length (strs M1) ∧ Below w.heap.size w w' ∧ Fresh w v0 (.slice p M0.length q) ∧ Fresh w v1 (.slice p' M1.length q')

/-- What the reference's Put has left behind the statement: a new variable. -/
def PutGot (w0 wx : World) (B c0 c1 W k0 k1 : Nat) (p0 : Option Addr) (q0 : Nat) (p1 : Option Addr) (q1 : Nat) (L0 L1 M0 M1 : List ByteArray) (ok : Bool) (s9 s10 : Value) : Prop :=
  ∃ (g : Nat) (pa : Option Addr) (qa : Nat) (pb : Option Addr) (qb : Nat), s9 = .pointer (some ⟨g, 0, none⟩) ∧ s10 = .bool ok ∧ Play w0 wx B c0 c1 W k0 k1 p0 q0 p1 q1 L0 L1 ∧
    Four wx g (.slice pa M0.length qa) (.slice pb M1.length qb) (.int .i64 k0) (.int .i64 k1) ∧ wx.ownsRow (W + 1) 9 1 (.slice pa M0.length qa) M0.length (strs M0) ∧ wx.ownsRow (W + 1) 9 1 (.slice pb M1.length qb) M1.length (strs M1) ∧ W < g
theorem Four.open {w : World} {g : Nat} {a b c d : Value} (h : Four w g a b c d) : w.cell? ⟨g, 0, none⟩ = some a ∧ w.cell? ⟨g, 1, none⟩ = some b ∧ w.cell? ⟨g, 2, none⟩ = some c ∧ w.cell? ⟨g, 3, none⟩ = some d ∧ w.frozen? ⟨g, 0, none⟩ = false ∧ w.frozen? ⟨g, 1, none⟩ = false ∧ w.frozen? ⟨g, 2, none⟩ = false ∧ w.frozen? ⟨g, 3, none⟩ = false ∧ g < w.heap.size := ⟨h.c0, h.c1, h.c2, h.c3, h.f0, h.f1, h.f2, h.f3, h.lt⟩
theorem four_set {w : World} {g : Nat} {a b c d : Value} (h : Four w g a b c d) (a' b' c' d' : Value) : Four ((((w.setCell ⟨g, 0, none⟩ a').setCell ⟨g, 1, none⟩ b').setCell ⟨g, 2, none⟩ c').setCell ⟨g, 3, none⟩ d') g a' b' c' d' ∧ Upd (· = g) w ((((w.setCell ⟨g, 0, none⟩ a').setCell ⟨g, 1, none⟩ b').setCell ⟨g, 2, none⟩ c').setCell ⟨g, 3, none⟩ d') := by
  obtain ⟨x0, x1, x2, x3, x4, x5, x6, x7, x8⟩ := h.open
  refine ⟨⟨?_, ?_, ?_, ?_, ?_, ?_, ?_, ?_⟩, (((upd_setCell w ⟨g, 0, none⟩ a').trans (upd_setCell _ ⟨g, 1, none⟩ b')).trans (upd_setCell _ ⟨g, 2, none⟩ c')).trans (upd_setCell _ ⟨g, 3, none⟩ d')⟩ <;> go_simp
theorem play_mono {w0 w w' : World} {B c0 c1 W k0 k1 q0 q1 : Nat} {p0 p1 : Option Addr} {L0 L1 : List ByteArray} (h : Play w0 w B c0 c1 W k0 k1 p0 q0 p1 q1 L0 L1) (hb : Below w.heap.size w w') : Play w0 w' B c0 c1 W k0 k1 p0 q0 p1 q1 L0 L1 := h.keep (upd_of_below hb)
theorem put_got_a {w0 wr w9 : World} {B c0 c1 W k0 k1 q0 q1 qa qb : Nat} {p0 p1 pa pb : Option Addr} {L0 L1 M0 M1 : List ByteArray} {ok : Bool} (hp : Play w0 wr B c0 c1 W k0 k1 p0 q0 p1 q1 L0 L1)
    (ra : w9.ownsRow (W + 1) 9 1 (.slice pa M0.length qa) M0.length (strs M0)) (rb : w9.ownsRow (W + 1) 9 1 (.slice pb M1.length qb) M1.length (strs M1)) (hb : Below wr.drew.heap.size wr.drew w9) :
    PutGot w0 (w9.alloc (.cells #[.slice pa M0.length qa, .slice pb M1.length qb, .int .i64 k0, .int .i64 k1] 53)) B c0 c1 W k0 k1 p0 q0 p1 q1 L0 L1 M0 M1 ok (.pointer (some ⟨w9.heap.size, 0, none⟩)) (.bool ok) :=
  ⟨w9.heap.size, pa, qa, pb, qb, rfl, rfl, (hp.keep ((upd_drew _ _).trans (upd_of_below hb))).keep (upd_alloc _ _ _), four_new _ _ _ _ _ _, ra.alloc _, rb.alloc _, Nat.lt_of_lt_of_le hp.var.lt hb.size⟩
theorem put_got_b {w0 wr wa w9 : World} {B c0 c1 W k0 k1 q0 q1 qa qb : Nat} {p0 p1 pa pb : Option Addr} {L0 L1 M0 M1 : List ByteArray} {ok : Bool} {a b c d : Value} {o : Obj} (hp : Play w0 wr B c0 c1 W k0 k1 p0 q0 p1 q1 L0 L1)
    (ra : w9.ownsRow (W + 1) 9 1 (.slice pa M0.length qa) M0.length (strs M0)) (rb : w9.ownsRow (W + 1) 9 1 (.slice pb M1.length qb) M1.length (strs M1)) (hb : Below wa.heap.size wa w9) (f0 : Fresh wa (.slice p0 L0.length q0) (.slice pa M0.length qa)) (f1 : Fresh wa (.slice p1 L1.length q1) (.slice pb M1.length qb)) (hn : Four wa wr.heap.size a b c d) (hw : wa = (wr.alloc o).drew) :
    PutGot w0 ((((w9.setCell ⟨wr.heap.size, 0, none⟩ (.slice pa M0.length qa)).setCell ⟨wr.heap.size, 1, none⟩ (.slice pb M1.length qb)).setCell ⟨wr.heap.size, 2, none⟩ (.int .i64 k0)).setCell ⟨wr.heap.size, 3, none⟩ (.int .i64 k1)) B c0 c1 W k0 k1 p0 q0 p1 q1 L0 L1 M0 M1 ok (.pointer (some ⟨wr.heap.size, 0, none⟩)) (.bool ok) := by
  subst hw
  have h9 := hn.keep (upd_of_below (S := fun _ => False) hb) (fun h => h)
  obtain ⟨hf, hu⟩ := four_set h9 (.slice pa M0.length qa) (.slice pb M1.length qb) (.int .i64 k0) (.int .i64 k1)
  have u9 : Upd (fun _ => False) wr w9 := ((upd_alloc _ wr o).trans (upd_drew _ _)).trans (upd_of_below hb)
  have u10 : Upd (fun _ => False) wr _ := u9.above (hu.mono fun k _ hk => by rw [hk]; exact Nat.le_refl _)
  refine ⟨wr.heap.size, pa, qa, pb, qb, rfl, rfl, hp.keep u10, hf, ?_, ?_, hp.var.lt⟩
  · refine owns_upd2 ra hu (fun g hg => ?_)
    have hs : (wr.alloc o).drew.heap.size = wr.heap.size + 1 := World.size_alloc _ _
    rcases f0 g hg with h | h
    · have := (hp.r0.lt g h).2; omega
    · omega
  · refine owns_upd2 rb hu (fun g hg => ?_)
    have hs : (wr.alloc o).drew.heap.size = wr.heap.size + 1 := World.size_alloc _ _
    rcases f1 g hg with h | h
    · have := (hp.r1.lt g h).2; omega
    · omega
theorem play_put {w0 w w15 w16 : World} {B c0 c1 W k0 k1 q0 q1 qa qb : Nat} {p0 p1 pa pb : Option Addr} {L0 L1 M0 M1 : List ByteArray} (h : Play w0 w B c0 c1 W k0 k1 p0 q0 p1 q1 L0 L1)
    (ra : w.ownsRow (W + 1) 9 1 (.slice pa M0.length qa) M0.length (strs M0)) (rb : w.ownsRow (W + 1) 9 1 (.slice pb M1.length qb) M1.length (strs M1)) (hu : Upd (· = W) w w15)
    (hv : Four w15 W (.slice pa M0.length qa) (.slice pb M1.length qb) (.int .i64 k0) (.int .i64 k1)) (hu16 : Upd (fun k => k = c0 ∨ k = c1) w15 w16) (hb : Box w16 B c0 c1 k0 k1 (strs M0) (strs M1)) (hf : M0.length ≤ k0 ∧ M1.length ≤ k1) :
    Play w0 w16 B c0 c1 W k0 k1 pa qa pb qb M0 M1 := by
  have hm := h.mid
  have hl := h.lo
  have hs := hu.size
  have ua : Upd (fun k => k = W ∨ k = c0 ∨ k = c1) w w16 := (hu.mono fun k _ hk => Or.inl hk).trans (hu16.mono fun k _ hk => Or.inr hk)
  refine ⟨hb, hv.keep hu16 (by omega), owns_upd2 ra ua (fun g hg => ?_), owns_upd2 rb ua (fun g hg => ?_), h.k, hf, h.lo, h.mid, h.below.trans (ua.below h.below.size fun k hk => by omega)⟩
  · have := (ra.lt g hg).1; omega
  · have := (rb.lt g hg).1; omega
/-- What the reference's Take leaves. -/
def TakePost (w : World) (lo k0 k1 : Nat) (M0 M1 : List ByteArray) (x : ByteArray) (ok : Bool) (e : Ending) (w' : World) : Prop :=
  ∃ p q p' q', e = .returned (.tuple #[.agg #[.slice p M0.length q, .slice p' M1.length q', .int .i64 k0, .int .i64 k1], .string x, .bool ok]) ∧
    w'.ownsRow lo 9 1 (.slice p M0.length q) M0.length (strs M0) ∧ w'.ownsRow lo 9 1 (.slice p' M1.length q') M1.length (strs M1) ∧ Below w.heap.size w w'
/-- What All leaves, of either. -/
def AllPost (w0 : World) (B c0 c1 W k0 k1 : Nat) (p0 : Option Addr) (q0 : Nat) (p1 : Option Addr) (q1 : Nat) (L0 L1 : List ByteArray) (w : World) (e : Ending) (w' : World) : Prop :=
  ∃ p q, e = .returned (.slice p (L0.length + L1.length) q) ∧ w'.ownsRow w.heap.size 9 1 (.slice p (L0.length + L1.length) q) (L0.length + L1.length) (strs (L0 ++ L1)) ∧
    Play w0 w' B c0 c1 W k0 k1 p0 q0 p1 q1 L0 L1 ∧ Upd (fun k => k = c0 ∨ k = c1) w w'
theorem all_box {w0 w : World} {B c0 c1 W k0 k1 q0 q1 : Nat} {p0 p1 : Option Addr} {L0 L1 : List ByteArray} (h : Play w0 w B c0 c1 W k0 k1 p0 q0 p1 q1 L0 L1) :
    Calls Try.prog 25 #[.pointer (some ⟨B, 0, none⟩)] w (AllPost w0 B c0 c1 W k0 k1 p0 q0 p1 q1 L0 L1 w) := by
  have hk := h.k
  have hf := h.fit
  refine (s_all w h.box hf.1 hf.2 (by omega) (by omega)).mono ?_
  rintro e w' ⟨v, rfl, ho, hb, hu⟩
  obtain ⟨p, q, rfl⟩ := sowns_form ho
  exact ⟨p, q, rfl, ho, h.setBox hu hb, hu⟩
theorem all_ref {w0 w : World} {B c0 c1 W k0 k1 q0 q1 : Nat} {p0 p1 : Option Addr} {L0 L1 : List ByteArray} (h : Play w0 w B c0 c1 W k0 k1 p0 q0 p1 q1 L0 L1) :
    Calls Try.prog 26 #[.agg #[.slice p0 L0.length q0, .slice p1 L1.length q1, .int .i64 k0, .int .i64 k1]] w (AllPost w0 B c0 c1 W k0 k1 p0 q0 p1 q1 L0 L1 w) := by
  have hk := h.k
  have hf := h.fit
  refine (r_all p0 L0.length q0 p1 L1.length q1 k0 k1 w (by omega) (by omega) (W + 1) L0 L1 h.r0 h.r1).mono ?_
  rintro e w' ⟨p, q, rfl, ho, hb⟩
  exact ⟨p, q, rfl, ho, play_mono h hb, upd_of_below hb⟩
theorem Play.two {w0 w : World} {B c0 c1 W k0 k1 q0 q1 : Nat} {p0 p1 : Option Addr} {L0 L1 : List ByteArray} (h : Play w0 w B c0 c1 W k0 k1 p0 q0 p1 q1 L0 L1) : L0.length + L1.length ≤ 1000 := by
  have hk := h.k
  have hf := h.fit
  omega
/-- A row of the second world, at a block that the first world does not have. -/
theorem Play.far {w0 w w' : World} {B c0 c1 W k0 k1 q0 q1 : Nat} {p0 p1 : Option Addr} {L0 L1 : List ByteArray} (h : Play w0 w B c0 c1 W k0 k1 p0 q0 p1 q1 L0 L1) {v : Value} {e size n : Nat} {xs : List Value} (hr : w'.ownsRow w.heap.size e size v n xs) :
    ∀ g, v.ownBlock = some g → ¬ (g = c0 ∨ g = c1) := fun g hg => by
  have := (hr.lt g hg).1
  have hm := h.mid
  have := h.var.lt
  omega
theorem Four.four {w : World} {g : Nat} {a b c d : Value} (h : Four w g a b c d) : w.cell? ⟨g, 0, none⟩ = some a ∧ w.cell? ⟨g, 1, none⟩ = some b ∧ w.cell? ⟨g, 2, none⟩ = some c ∧ w.cell? ⟨g, 3, none⟩ = some d := ⟨h.c0, h.c1, h.c2, h.c3⟩
theorem len_box {w0 w : World} {B c0 c1 W k0 k1 q0 q1 : Nat} {p0 p1 : Option Addr} {L0 L1 : List ByteArray} (h : Play w0 w B c0 c1 W k0 k1 p0 q0 p1 q1 L0 L1) :
    Calls Try.prog 17 #[.pointer (some ⟨B, 0, none⟩)] w fun e w' => e = .returned (.int .i64 ((L0.length + L1.length : Nat))) ∧ Play w0 w' B c0 c1 W k0 k1 p0 q0 p1 q1 L0 L1 := by
  have hk := h.k
  have hf := h.fit
  refine (s_len w h.box (by rw [strs_len]; omega) (by rw [strs_len]; omega)).mono ?_
  rintro e w' ⟨rfl, hu⟩
  exact ⟨by rw [strs_len, strs_len], h.keep hu⟩
theorem len_ref {w0 w : World} {B c0 c1 W k0 k1 q0 q1 : Nat} {p0 p1 : Option Addr} {L0 L1 : List ByteArray} (h : Play w0 w B c0 c1 W k0 k1 p0 q0 p1 q1 L0 L1) :
    Calls Try.prog 27 #[.agg #[.slice p0 L0.length q0, .slice p1 L1.length q1, .int .i64 k0, .int .i64 k1]] w fun e w' => e = .returned (.int .i64 ((L0.length + L1.length : Nat))) ∧ Play w0 w' B c0 c1 W k0 k1 p0 q0 p1 q1 L0 L1 := by
  have hk := h.k
  have hf := h.fit
  refine (r_len p0 L0.length q0 p1 L1.length q1 k0 k1 w (by omega) (by omega)).mono ?_
  rintro e w' ⟨rfl, hu⟩
  exact ⟨rfl, play_mono h hu⟩
theorem room_box_t {w0 w : World} {B c0 c1 W k0 k1 q0 q1 : Nat} {p0 p1 : Option Addr} {L0 L1 : List ByteArray} (h : Play w0 w B c0 c1 W k0 k1 p0 q0 p1 q1 L0 L1) :
    Calls Try.prog 28 #[.pointer (some ⟨B, 0, none⟩), .bool true] w fun e w' => e = .returned (.int .i64 ((k0 : Int) - L0.length)) ∧ Play w0 w' B c0 c1 W k0 k1 p0 q0 p1 q1 L0 L1 := by
  have hk := h.k
  have hf := h.fit
  refine (s_room_t w h.box (by omega) (by rw [strs_len]; omega)).mono ?_
  rintro e w' ⟨rfl, hu⟩
  subst hu
  exact ⟨by rw [strs_len], h⟩
theorem room_ref_t {w0 w : World} {B c0 c1 W k0 k1 q0 q1 : Nat} {p0 p1 : Option Addr} {L0 L1 : List ByteArray} (h : Play w0 w B c0 c1 W k0 k1 p0 q0 p1 q1 L0 L1) :
    Calls Try.prog 29 #[.agg #[.slice p0 L0.length q0, .slice p1 L1.length q1, .int .i64 k0, .int .i64 k1], .bool true] w fun e w' => e = .returned (.int .i64 ((k0 : Int) - L0.length)) ∧ Play w0 w' B c0 c1 W k0 k1 p0 q0 p1 q1 L0 L1 := by
  have hk := h.k
  have hf := h.fit
  refine (r_room_t p0 L0.length q0 p1 L1.length q1 k0 k1 w (by omega) (by omega)).mono ?_
  rintro e w' ⟨rfl, hu⟩
  exact ⟨rfl, play_mono h hu⟩
theorem room_box_f {w0 w : World} {B c0 c1 W k0 k1 q0 q1 : Nat} {p0 p1 : Option Addr} {L0 L1 : List ByteArray} (h : Play w0 w B c0 c1 W k0 k1 p0 q0 p1 q1 L0 L1) :
    Calls Try.prog 28 #[.pointer (some ⟨B, 0, none⟩), .bool false] w fun e w' => e = .returned (.int .i64 ((k1 : Int) - L1.length)) ∧ Play w0 w' B c0 c1 W k0 k1 p0 q0 p1 q1 L0 L1 := by
  have hk := h.k
  have hf := h.fit
  refine (s_room_f w h.box (by omega) (by rw [strs_len]; omega)).mono ?_
  rintro e w' ⟨rfl, hu⟩
  subst hu
  exact ⟨by rw [strs_len], h⟩
theorem room_ref_f {w0 w : World} {B c0 c1 W k0 k1 q0 q1 : Nat} {p0 p1 : Option Addr} {L0 L1 : List ByteArray} (h : Play w0 w B c0 c1 W k0 k1 p0 q0 p1 q1 L0 L1) :
    Calls Try.prog 29 #[.agg #[.slice p0 L0.length q0, .slice p1 L1.length q1, .int .i64 k0, .int .i64 k1], .bool false] w fun e w' => e = .returned (.int .i64 ((k1 : Int) - L1.length)) ∧ Play w0 w' B c0 c1 W k0 k1 p0 q0 p1 q1 L0 L1 := by
  have hk := h.k
  have hf := h.fit
  refine (r_room_f p0 L0.length q0 p1 L1.length q1 k0 k1 w (by omega) (by omega)).mono ?_
  rintro e w' ⟨rfl, hu⟩
  exact ⟨rfl, play_mono h hu⟩
/-- What the loads of the put read. -/
def SS (W bb o : Nat) (p0 : Option Addr) (n0 q0 : Nat) (p1 : Option Addr) (n1 q1 k0 k1 : Nat) (x : ByteArray) (w' : World) : Prop :=
  w'.cell? ⟨W, 0, none⟩ = some (.slice p0 n0 q0) ∧ w'.cell? ⟨W, 1, none⟩ = some (.slice p1 n1 q1) ∧ w'.cell? ⟨W, 2, none⟩ = some (.int .i64 k0) ∧ w'.cell? ⟨W, 3, none⟩ = some (.int .i64 k1) ∧ w'.cell? ⟨bb, o, none⟩ = some (.string x)
section
variable {W bb o : Nat} {p0 : Option Addr} {n0 q0 : Nat} {p1 : Option Addr} {n1 q1 k0 k1 : Nat} {x : ByteArray} {w w' : World}
theorem SS.out (h : SS W bb o p0 n0 q0 p1 n1 q1 k0 k1 x w) : w.cell? ⟨W, 0, none⟩ = some (.slice p0 n0 q0) ∧ w.cell? ⟨W, 1, none⟩ = some (.slice p1 n1 q1) ∧ w.cell? ⟨W, 2, none⟩ = some (.int .i64 k0) ∧ w.cell? ⟨W, 3, none⟩ = some (.int .i64 k1) ∧ w.cell? ⟨bb, o, none⟩ = some (.string x) := h
theorem SS.upd (h : SS W bb o p0 n0 q0 p1 n1 q1 k0 k1 x w) {T : Nat → Prop} (hu : Upd T w w') (h1 : ¬ T W) (h2 : ¬ T bb) : SS W bb o p0 n0 q0 p1 n1 q1 k0 k1 x w' :=
  ⟨hu.cell h.1 h1, hu.cell h.2.1 h1, hu.cell h.2.2.1 h1, hu.cell h.2.2.2.1 h1, hu.cell h.2.2.2.2 h2⟩
theorem SS.alloc (h : SS W bb o p0 n0 q0 p1 n1 q1 k0 k1 x w) (ob : Obj) : SS W bb o p0 n0 q0 p1 n1 q1 k0 k1 x (w.alloc ob) := h.upd (upd_alloc (fun _ => False) _ _) (fun h => h) (fun h => h)
theorem SS.alloc' (h : SS W bb o p0 n0 q0 p1 n1 q1 k0 k1 x w.drew) (ob : Obj) : SS W bb o p0 n0 q0 p1 n1 q1 k0 k1 x (w.alloc ob).drew := SS.alloc (w := w) h ob
theorem SS.below (h : SS W bb o p0 n0 q0 p1 n1 q1 k0 k1 x w) (hb : Below w.heap.size w w') : SS W bb o p0 n0 q0 p1 n1 q1 k0 k1 x w' := h.upd (upd_of_below (S := fun _ => False) hb) (fun h => h) (fun h => h)
theorem SS.set4 {g : Nat} (h : SS W bb o p0 n0 q0 p1 n1 q1 k0 k1 x w) (hg : W ≠ g ∧ bb ≠ g) (a b c d : Value) : SS W bb o p0 n0 q0 p1 n1 q1 k0 k1 x ((((w.setCell ⟨g, 0, none⟩ a).setCell ⟨g, 1, none⟩ b).setCell ⟨g, 2, none⟩ c).setCell ⟨g, 3, none⟩ d) := by
  have k : ∀ (w : World) (n : Nat) (v : Value), SS W bb o p0 n0 q0 p1 n1 q1 k0 k1 x w → SS W bb o p0 n0 q0 p1 n1 q1 k0 k1 x (w.setCell ⟨g, n, none⟩ v) := fun w n v h => by
    exact h.upd (upd_setCell w ⟨g, n, none⟩ v) hg.1 hg.2
  exact k _ _ _ (k _ _ _ (k _ _ _ (k _ _ _ h)))
end

set_option maxRecDepth 100000 in
set_option maxHeartbeats 4000000 in
theorem plays_any (a b : Int) (a1 : Option Addr) (len cap : Nat) (kd : Nat → Nat) (st : Nat → ByteArray) (w : World) (h : IsOps w a1 len kd st) :
    Calls Try.prog 5 #[.agg #[.int .i64 a, .int .i64 b], .slice a1 len cap] w fun e w' => e = .returned (.bool true) ∧ Below w.heap.size w w' := by
  obtain ⟨q0, q1, -, -⟩ := pair_cells w (.int .i64 a) (.int .i64 b) 39
  have Q0 := Lib.hid q0
  have Q1 := Lib.hid q1
  have HB1 := Lib.hid ((Below.refl w.heap.size w).alloc (Nat.le_refl _) (Obj.cells #[Value.int .i64 a, Value.int .i64 b] 39))
  have HO := Lib.hid h
  clear h q0 q1
  go_enter Try.func5, Try.ntmps5
  go_wp2_with fail
  generalize World.alloc w (Obj.cells #[Value.int .i64 a, Value.int .i64 b] 39) = w1 at *
  refine (awake_any _).mono ?_
  rintro e w2 ⟨rfl, hb2⟩
  have u2 := upd_of_below (S := fun _ => False) hb2
  have HB2 := Lib.hid (HB1.out.trans (hb2.mono HB1.out.size))
  have q0 := u2.cell Q0.out (fun h => h)
  have q1 := u2.cell Q1.out (fun h => h)
  have hio : IsOps w2 a1 len kd st := fun j hj => by
    obtain ⟨bb, off, he, c0, c1, hk⟩ := HO.out j hj
    have hlt : bb < w.heap.size := cell_lt c0
    exact ⟨bb, off, he, (HB2.out.cell (p := ⟨bb, off + j * 2, none⟩) hlt).trans c0, (HB2.out.cell (p := ⟨bb, off + j * 2 + 1, none⟩) hlt).trans c1, hk⟩
  have HIO := Lib.hid hio
  clear hb2 u2 hio Q0 Q1 HB1
  go_wp2_with fail
  refine (few_any a1 len cap kd st _ HIO.out).mono ?_
  rintro e w3 ⟨fb, rfl, hfew, rfl⟩
  cases fb with
  | false =>
    clear hfew
    go_wp2_with fail
    refine (awake_any _).mono ?_
    rintro e w3 ⟨rfl, hb3⟩
    go_wp2_with fail
    go_ret
    exact ⟨rfl, HB2.out.trans (hb3.mono HB2.out.size)⟩
  | true =>
    have hlen := hfew rfl
    clear hfew
    go_wp2_with fail
    refine (s_new a b _).mono ?_
    rintro e w3 ⟨B, c0, c1, rfl, hb3, hbel3, z0, z1, z2⟩
    have u3 := upd_of_below (S := fun _ => False) hbel3
    have q0 := u3.cell q0 (fun h => h)
    have q1 := u3.cell q1 (fun h => h)
    have HB3 := Lib.hid hb3
    have HL3 := Lib.hid (HB2.out.trans (hbel3.mono HB2.out.size))
    have HZ := Lib.hid (And.intro z0 (And.intro z1 z2))
    clear hb3 hbel3 z0 z1 z2 u3
    go_wp2_with fail
    refine (r_new a b _).mono ?_
    rintro e w4 ⟨rfl, hb4⟩
    have hs := HB2.out.size
    have hz := HZ.out
    have HP := Lib.hid (play_start HB3.out (rm_le a) (rm_le b) ⟨by omega, by omega, by omega⟩ HL3.out hb4)
    clear hb4 hs hz q0 q1
    have hk0 := rm_le a
    have hk1 := rm_le b
    go_upto_region 7 with (fail)
    generalize World.alloc w4 _ = w5 at *
    generalize w4.heap.size = W at *
    generalize rm a = k0 at *
    generalize rm b = k1 at *
    clear HB3 HL3 HZ HIO HB2
    go_wp2_with fail
    go_loopw [7] (fun i wr => ∃ (j : Nat) (p0 : Option Addr) (q0 : Nat) (p1 : Option Addr) (q1 : Nat) (L0 L1 : List ByteArray), j ≤ len ∧ i = .int .i64 j ∧ Play w wr B c0 c1 W k0 k1 p0 q0 p1 q1 L0 L1) (fun i _ => len - (intOf i).toNat)
    case atStart => exact ⟨0, _, _, _, _, _, _, Nat.zero_le _, rfl, HP.out⟩
    case round =>
      obtain ⟨j, p0, q0, p1, q1, L0, L1, hj, rfl, hp⟩ := hrel
      have HP := Lib.hid hp
      clear hp
      by_cases hjl : j < len
      · obtain ⟨bb, off, rfl, o0, o1, hk⟩ := HO.out j hjl
        have hlt : bb < w.heap.size := cell_lt o0
        have HO1 := Lib.hid (fun (wx : World) (hb : Below w.heap.size w wx) => (hb.cell (p := ⟨bb, off + j * 2 + 1, none⟩) hlt).trans o1)
        have o0 := (HP.out.below.cell (p := ⟨bb, off + j * 2, none⟩) hlt).trans o0
        have o1 := (HP.out.below.cell (p := ⟨bb, off + j * 2 + 1, none⟩) hlt).trans o1
        go_upto_block 2 with (fail)
        go_cut [] (fun wx => ∃ (p0 : Option Addr) (q0 : Nat) (p1 : Option Addr) (q1 : Nat) (L0 L1 : List ByteArray), Play w wx B c0 c1 W k0 k1 p0 q0 p1 q1 L0 L1)
        case first =>
          have hm : kd j % 4 = 0 ∨ kd j % 4 = 1 ∨ kd j % 4 = 2 ∨ kd j % 4 = 3 := by omega
          rcases hm with hm | hm | hm | hm
          · have hq0 : ((kd j : Int) % 4 == 0) = true := beq_iff_eq.2 (by omega)
            have hq1 : ((kd j : Int) % 4 == 1) = false := beq_eq_false_iff_ne.2 (by omega)
            go_upto_region 14 with (fail)
            have hp := HP.out
            have y0 := hp.var.c0
            have y1 := hp.var.c1
            have y2 := hp.var.c2
            have y3 := hp.var.c3
            have hji : (j : Int) < (len : Int) := by omega
            have hW := hp.var.lt
            have hne : W ≠ wr.heap.size ∧ bb ≠ wr.heap.size := ⟨by omega, by have := HP.out.below.size; omega⟩
            clear hp o0
            have hWd : W + 1 ≤ wr.drew.heap.size := hW
            obtain ⟨M0, M1, ok, hput, hbox, hfit⟩ : ∃ (M0 M1 : List ByteArray) (ok : Bool), (∀ w', W + 1 ≤ w'.heap.size → w'.ownsRow (W + 1) 9 1 (.slice p0 L0.length q0) L0.length (strs L0) → w'.ownsRow (W + 1) 9 1 (.slice p1 L1.length q1) L1.length (strs L1) →
                Calls Try.prog 22 #[.agg #[.slice p0 L0.length q0, .slice p1 L1.length q1, .int .i64 k0, .int .i64 k1], .string (st j), .bool false] w' (PutPost w' (W + 1) k0 k1 (.slice p0 L0.length q0) (.slice p1 L1.length q1) M0 M1 ok)) ∧
                (∀ w', Box w' B c0 c1 k0 k1 (strs L0) (strs L1) → Calls Try.prog 13 #[.pointer (some ⟨B, 0, none⟩), .string (st j), .bool false] w' fun e w2 => e = .returned (.int .i64 (if ok = true then 0 else 9)) ∧ Box w2 B c0 c1 k0 k1 (strs M0) (strs M1) ∧ Upd (fun k => k = c0 ∨ k = c1) w' w2) ∧ M0.length ≤ k0 ∧ M1.length ≤ k1 :=
              ⟨_, _, _, fun w' h1 h2 h3 => put_ref false (st j) p0 q0 p1 q1 k0 k1 L0 L1 w' (W + 1) hk0 hk1 HP.out.fit.1 HP.out.fit.2 h1 h2 h3, fun w' h1 => put_box false (st j) L0 L1 w' h1, putL_fits _ _ _ _ _ _ HP.out.fit.1 HP.out.fit.2⟩
            have HPut := Lib.hid hput
            have HBox := Lib.hid hbox
            clear hput hbox
            have hWa : ∀ o, W + 1 ≤ (wr.alloc o).drew.heap.size := fun o => by show W + 1 ≤ (wr.alloc o).heap.size; rw [World.size_alloc]; exact Nat.le_succ_of_le hW
            have R0d := Lib.hid (World.ownsRow.drew HP.out.r0)
            have R1d := Lib.hid (World.ownsRow.drew HP.out.r1)
            have hS0 : SS W bb (off + j * 2 + 1) p0 L0.length q0 p1 L1.length q1 k0 k1 (st j) wr.drew := ⟨y0, y1, y2, y3, o1⟩
            have RA0 := fun o => Lib.hid (World.ownsRow.drew (HP.out.r0.alloc o))
            have RA1 := fun o => Lib.hid (World.ownsRow.drew (HP.out.r1.alloc o))
            have hFA : ∀ (a b c d : Value) (t : TypeId), Four (wr.alloc (.cells #[a, b, c, d] t)).drew wr.heap.size a b c d := fun a b c d t => (four_new wr a b c d t).keep (upd_of_below (S := fun _ => False) (below_drewN2 _ _ 1)) (fun h => h)
            go_cut [9, 10] (fun s9 s10 wx => PutGot w wx B c0 c1 W k0 k1 p0 q0 p1 q1 L0 L1 M0 M1 ok s9 s10)
            case first =>
             refine Code.wp_mono OnlyN.imp ?_
             go_region_held3 (fun w' => w'.cell? ⟨W, 0, none⟩ = some (.slice p0 L0.length q0) ∧ w'.cell? ⟨W, 1, none⟩ = some (.slice p1 L1.length q1) ∧ w'.cell? ⟨W, 2, none⟩ = some (.int .i64 k0) ∧ w'.cell? ⟨W, 3, none⟩ = some (.int .i64 k1) ∧ w'.cell? ⟨bb, off + j * 2 + 1, none⟩ = some (.string (st j)))
               (first
                 | (with_reducible exact SS.out hS0)
                 | (with_reducible exact SS.out (SS.alloc' hS0 _))
                 | (with_reducible exact SS.out hS9)
                 | (with_reducible exact SS.out (SS.alloc hS9 _))
                 | (with_reducible exact SS.out (SS.set4 hS9 hne _ _ _ _))
                 | (trace_state; fail))
               (first
                 | (go_at_call 22; (with_reducible refine (HPut.out _ hWd R0d.out R1d.out).mono ?_); rintro e w9 ⟨pa, qa, pb, qb, rfl, ra, rb, hb9, fr0, fr1⟩
                    have hS9 := SS.below hS0 hb9
                    have HB9 := Lib.hid (And.intro ra (And.intro rb (And.intro hb9 (And.intro fr0 fr1)))); clear ra rb hb9 fr0 fr1)
                 | (go_at_call 22; (with_reducible refine (HPut.out _ (hWa _) (RA0 _).out (RA1 _).out).mono ?_); rintro e w9 ⟨pa, qa, pb, qb, rfl, ra, rb, hb9, fr0, fr1⟩
                    have hS9 := SS.below (SS.alloc' hS0 _) hb9
                    obtain ⟨n0, n1, n2, n3, n4, n5, n6, n7, n8⟩ := Four.open ((hFA _ _ _ _ _).keep (upd_of_below (S := fun _ => False) hb9) (fun h => h))
                    have HB9 := Lib.hid (And.intro ra (And.intro rb (And.intro hb9 (And.intro fr0 fr1)))); clear ra rb hb9 fr0 fr1))
             · refine OnlyN.of ?_
               refine (‹∀ (a' : Act) (w' : World), Met _ a' w' → _›) _ _ ?_
               go_meet
               exact put_got_a HP.out HB9.out.1 HB9.out.2.1 HB9.out.2.2.1
             · refine OnlyN.of ?_
               refine (‹∀ (a' : Act) (w' : World), Met _ a' w' → _›) _ _ ?_
               go_meet
               exact put_got_b HP.out HB9.out.1 HB9.out.2.1 HB9.out.2.2.1 HB9.out.2.2.2.1 HB9.out.2.2.2.2 (hFA _ _ _ _ _) (by rfl)
            case rest =>
             obtain ⟨g, pa, qa, pb, qb, rfl, rfl, hp, hg, ra, rb, hWg⟩ := hcut
             clear hS0 hFA RA0 RA1 R0d R1d hWd hWa hne hW y0 y1 y2 y3 HPut HP o1
             obtain ⟨x0, x1, x2, x3, x4, x5, x6, x7, x8⟩ := hp.var.open
             obtain ⟨z0, z1, z2, z3, -, -, -, -, z8⟩ := hg.open
             have hset := four_set hp.var (.slice pa M0.length qa) (.slice pb M1.length qb) (.int .i64 k0) (.int .i64 k1)
             have HT := Lib.hid hset
             have HP := Lib.hid hp
             have HR := Lib.hid (And.intro ra rb)
             clear hset hp hg ra rb
             go_upto_region 16 with (fail)
             generalize World.setCell _ _ _ = w15 at *
             have hb15 := HP.out.box.keep HT.out.2 (by have := HP.out.mid; omega) (by have := HP.out.mid; omega) (by have := HP.out.mid; omega)
             have oc := HO1.out _ (HP.out.below.trans (HT.out.2.below HP.out.below.size (by have := HP.out.mid; have := HP.out.lo; omega)))
             have HB15 := Lib.hid hb15
             clear hb15 x0 x1 x2 x3 x4 x5 x6 x7 x8 z0 z1 z2 z3 z8
             go_wp2_with fail
             refine (HBox.out _ HB15.out).mono ?_
             rintro e w16 ⟨rfl, hb16, hu16⟩
             have HP16 := Lib.hid (play_put HP.out HR.out.1 HR.out.2 HT.out.2 HT.out.1 hu16 hb16 hfit)
             clear hb16 hu16
             cases ok
             all_goals
              go_wp2_with fail
              go_meet
              exact ⟨_, _, _, _, _, _, HP16.out⟩
          · have hq0 : ((kd j : Int) % 4 == 0) = false := beq_eq_false_iff_ne.2 (by omega)
            have hq1 : ((kd j : Int) % 4 == 1) = true := beq_iff_eq.2 (by omega)
            go_upto_region 14 with (fail)
            have hp := HP.out
            have y0 := hp.var.c0
            have y1 := hp.var.c1
            have y2 := hp.var.c2
            have y3 := hp.var.c3
            have hji : (j : Int) < (len : Int) := by omega
            have hW := hp.var.lt
            have hne : W ≠ wr.heap.size ∧ bb ≠ wr.heap.size := ⟨by omega, by have := HP.out.below.size; omega⟩
            clear hp o0
            have hWd : W + 1 ≤ wr.drew.heap.size := hW
            obtain ⟨M0, M1, ok, hput, hbox, hfit⟩ : ∃ (M0 M1 : List ByteArray) (ok : Bool), (∀ w', W + 1 ≤ w'.heap.size → w'.ownsRow (W + 1) 9 1 (.slice p0 L0.length q0) L0.length (strs L0) → w'.ownsRow (W + 1) 9 1 (.slice p1 L1.length q1) L1.length (strs L1) →
                Calls Try.prog 22 #[.agg #[.slice p0 L0.length q0, .slice p1 L1.length q1, .int .i64 k0, .int .i64 k1], .string (st j), .bool true] w' (PutPost w' (W + 1) k0 k1 (.slice p0 L0.length q0) (.slice p1 L1.length q1) M0 M1 ok)) ∧
                (∀ w', Box w' B c0 c1 k0 k1 (strs L0) (strs L1) → Calls Try.prog 13 #[.pointer (some ⟨B, 0, none⟩), .string (st j), .bool true] w' fun e w2 => e = .returned (.int .i64 (if ok = true then 0 else 9)) ∧ Box w2 B c0 c1 k0 k1 (strs M0) (strs M1) ∧ Upd (fun k => k = c0 ∨ k = c1) w' w2) ∧ M0.length ≤ k0 ∧ M1.length ≤ k1 :=
              ⟨_, _, _, fun w' h1 h2 h3 => put_ref true (st j) p0 q0 p1 q1 k0 k1 L0 L1 w' (W + 1) hk0 hk1 HP.out.fit.1 HP.out.fit.2 h1 h2 h3, fun w' h1 => put_box true (st j) L0 L1 w' h1, putL_fits _ _ _ _ _ _ HP.out.fit.1 HP.out.fit.2⟩
            have HPut := Lib.hid hput
            have HBox := Lib.hid hbox
            clear hput hbox
            have hWa : ∀ o, W + 1 ≤ (wr.alloc o).drew.heap.size := fun o => by show W + 1 ≤ (wr.alloc o).heap.size; rw [World.size_alloc]; exact Nat.le_succ_of_le hW
            have R0d := Lib.hid (World.ownsRow.drew HP.out.r0)
            have R1d := Lib.hid (World.ownsRow.drew HP.out.r1)
            have hS0 : SS W bb (off + j * 2 + 1) p0 L0.length q0 p1 L1.length q1 k0 k1 (st j) wr.drew := ⟨y0, y1, y2, y3, o1⟩
            have RA0 := fun o => Lib.hid (World.ownsRow.drew (HP.out.r0.alloc o))
            have RA1 := fun o => Lib.hid (World.ownsRow.drew (HP.out.r1.alloc o))
            have hFA : ∀ (a b c d : Value) (t : TypeId), Four (wr.alloc (.cells #[a, b, c, d] t)).drew wr.heap.size a b c d := fun a b c d t => (four_new wr a b c d t).keep (upd_of_below (S := fun _ => False) (below_drewN2 _ _ 1)) (fun h => h)
            go_cut [9, 10] (fun s9 s10 wx => PutGot w wx B c0 c1 W k0 k1 p0 q0 p1 q1 L0 L1 M0 M1 ok s9 s10)
            case first =>
             refine Code.wp_mono OnlyN.imp ?_
             go_region_held3 (fun w' => w'.cell? ⟨W, 0, none⟩ = some (.slice p0 L0.length q0) ∧ w'.cell? ⟨W, 1, none⟩ = some (.slice p1 L1.length q1) ∧ w'.cell? ⟨W, 2, none⟩ = some (.int .i64 k0) ∧ w'.cell? ⟨W, 3, none⟩ = some (.int .i64 k1) ∧ w'.cell? ⟨bb, off + j * 2 + 1, none⟩ = some (.string (st j)))
               (first
                 | (with_reducible exact SS.out hS0)
                 | (with_reducible exact SS.out (SS.alloc' hS0 _))
                 | (with_reducible exact SS.out hS9)
                 | (with_reducible exact SS.out (SS.alloc hS9 _))
                 | (with_reducible exact SS.out (SS.set4 hS9 hne _ _ _ _))
                 | (trace_state; fail))
               (first
                 | (go_at_call 22; (with_reducible refine (HPut.out _ hWd R0d.out R1d.out).mono ?_); rintro e w9 ⟨pa, qa, pb, qb, rfl, ra, rb, hb9, fr0, fr1⟩
                    have hS9 := SS.below hS0 hb9
                    have HB9 := Lib.hid (And.intro ra (And.intro rb (And.intro hb9 (And.intro fr0 fr1)))); clear ra rb hb9 fr0 fr1)
                 | (go_at_call 22; (with_reducible refine (HPut.out _ (hWa _) (RA0 _).out (RA1 _).out).mono ?_); rintro e w9 ⟨pa, qa, pb, qb, rfl, ra, rb, hb9, fr0, fr1⟩
                    have hS9 := SS.below (SS.alloc' hS0 _) hb9
                    obtain ⟨n0, n1, n2, n3, n4, n5, n6, n7, n8⟩ := Four.open ((hFA _ _ _ _ _).keep (upd_of_below (S := fun _ => False) hb9) (fun h => h))
                    have HB9 := Lib.hid (And.intro ra (And.intro rb (And.intro hb9 (And.intro fr0 fr1)))); clear ra rb hb9 fr0 fr1))
             · refine OnlyN.of ?_
               refine (‹∀ (a' : Act) (w' : World), Met _ a' w' → _›) _ _ ?_
               go_meet
               exact put_got_a HP.out HB9.out.1 HB9.out.2.1 HB9.out.2.2.1
             · refine OnlyN.of ?_
               refine (‹∀ (a' : Act) (w' : World), Met _ a' w' → _›) _ _ ?_
               go_meet
               exact put_got_b HP.out HB9.out.1 HB9.out.2.1 HB9.out.2.2.1 HB9.out.2.2.2.1 HB9.out.2.2.2.2 (hFA _ _ _ _ _) (by rfl)
            case rest =>
             obtain ⟨g, pa, qa, pb, qb, rfl, rfl, hp, hg, ra, rb, hWg⟩ := hcut
             clear hS0 hFA RA0 RA1 R0d R1d hWd hWa hne hW y0 y1 y2 y3 HPut HP o1
             obtain ⟨x0, x1, x2, x3, x4, x5, x6, x7, x8⟩ := hp.var.open
             obtain ⟨z0, z1, z2, z3, -, -, -, -, z8⟩ := hg.open
             have hset := four_set hp.var (.slice pa M0.length qa) (.slice pb M1.length qb) (.int .i64 k0) (.int .i64 k1)
             have HT := Lib.hid hset
             have HP := Lib.hid hp
             have HR := Lib.hid (And.intro ra rb)
             clear hset hp hg ra rb
             go_upto_region 16 with (fail)
             generalize World.setCell _ _ _ = w15 at *
             have hb15 := HP.out.box.keep HT.out.2 (by have := HP.out.mid; omega) (by have := HP.out.mid; omega) (by have := HP.out.mid; omega)
             have oc := HO1.out _ (HP.out.below.trans (HT.out.2.below HP.out.below.size (by have := HP.out.mid; have := HP.out.lo; omega)))
             have HB15 := Lib.hid hb15
             clear hb15 x0 x1 x2 x3 x4 x5 x6 x7 x8 z0 z1 z2 z3 z8
             go_wp2_with fail
             refine (HBox.out _ HB15.out).mono ?_
             rintro e w16 ⟨rfl, hb16, hu16⟩
             have HP16 := Lib.hid (play_put HP.out HR.out.1 HR.out.2 HT.out.2 HT.out.1 hu16 hb16 hfit)
             clear hb16 hu16
             cases ok
             all_goals
              go_wp2_with fail
              go_meet
              exact ⟨_, _, _, _, _, _, HP16.out⟩
          · have hq0 : ((kd j : Int) % 4 == 0) = false := beq_eq_false_iff_ne.2 (by omega)
            have hq1 : ((kd j : Int) % 4 == 1) = false := beq_eq_false_iff_ne.2 (by omega)
            have hq2 : ((kd j : Int) % 4 == 2) = true := beq_iff_eq.2 (by omega)
            go_upto_region 20 with (fail)
            obtain ⟨M0, M1, x, ok, htake, hbox, hfit⟩ : ∃ (M0 M1 : List ByteArray) (x : ByteArray) (ok : Bool), (∀ w', W + 1 ≤ w'.heap.size → w'.ownsRow (W + 1) 9 1 (.slice p0 L0.length q0) L0.length (strs L0) → w'.ownsRow (W + 1) 9 1 (.slice p1 L1.length q1) L1.length (strs L1) →
                Calls Try.prog 23 #[.agg #[.slice p0 L0.length q0, .slice p1 L1.length q1, .int .i64 k0, .int .i64 k1]] w' (TakePost w' (W + 1) k0 k1 M0 M1 x ok)) ∧
                (∀ w', Box w' B c0 c1 k0 k1 (strs L0) (strs L1) → Calls Try.prog 15 #[.pointer (some ⟨B, 0, none⟩)] w' fun e w2 => e = .returned (.tuple #[.string x, .bool ok]) ∧ Box w2 B c0 c1 k0 k1 (strs M0) (strs M1) ∧ Upd (fun k => k = c0 ∨ k = c1) w' w2) ∧ M0.length ≤ k0 ∧ M1.length ≤ k1 :=
              ⟨_, _, _, _, fun w' h1 h2 h3 => take_ref p0 q0 p1 q1 k0 k1 L0 L1 w' (W + 1) hk0 hk1 HP.out.fit.1 HP.out.fit.2 h1 h2 h3, fun w' h1 => take_box L0 L1 w' h1, takeL_fits _ _ _ _ HP.out.fit.1 HP.out.fit.2⟩
            have HTake := Lib.hid htake
            have HBox := Lib.hid hbox
            clear htake hbox o0 o1
            obtain ⟨x0, x1, x2, x3, x4, x5, x6, x7, x8⟩ := HP.out.var.open
            go_wp2_with fail
            refine (HTake.out _ x8 HP.out.r0 HP.out.r1).mono ?_
            rintro e w9 ⟨pa, qa, pb, qb, rfl, ra, rb, hb9⟩
            clear x0 x1 x2 x3 x4 x5 x6 x7 x8
            have hp9 := play_mono HP.out hb9
            have hg := four_new w9 (.slice pa M0.length qa) (.slice pb M1.length qb) (.int .i64 k0) (.int .i64 k1) 53
            have hp := hp9.keep (upd_alloc _ w9 (Obj.cells #[.slice pa M0.length qa, .slice pb M1.length qb, .int .i64 k0, .int .i64 k1] 53))
            have HG := Lib.hid hg
            have HR := Lib.hid (And.intro (ra.alloc (Obj.cells #[.slice pa M0.length qa, .slice pb M1.length qb, .int .i64 k0, .int .i64 k1] 53)) (rb.alloc (Obj.cells #[.slice pa M0.length qa, .slice pb M1.length qb, .int .i64 k0, .int .i64 k1] 53)))
            clear HP
            have HP := Lib.hid hp
            clear hg hp hp9 ra rb hb9
            go_upto_region 21 with (fail)
            generalize World.alloc w9 _ = w10 at *
            generalize w9.heap.size = g at *
            obtain ⟨x0, x1, x2, x3, x4, x5, x6, x7, x8⟩ := HP.out.var.open
            obtain ⟨z0, z1, z2, z3, -, -, -, -, z8⟩ := HG.out.open
            have HT := Lib.hid (four_set HP.out.var (.slice pa M0.length qa) (.slice pb M1.length qb) (.int .i64 k0) (.int .i64 k1))
            go_upto_region 22 with (fail)
            generalize World.setCell _ _ _ = w15 at *
            have hb15 := HP.out.box.keep HT.out.2 (by have := HP.out.mid; omega) (by have := HP.out.mid; omega) (by have := HP.out.mid; omega)
            have HB15 := Lib.hid hb15
            clear hb15 x0 x1 x2 x3 x4 x5 x6 x7 x8 z0 z1 z2 z3 z8
            go_wp2_with fail
            refine (HBox.out _ HB15.out).mono ?_
            rintro e w16 ⟨rfl, hb16, hu16⟩
            have HP16 := Lib.hid (play_put HP.out HR.out.1 HR.out.2 HT.out.2 HT.out.1 hu16 hb16 hfit)
            clear hb16 hu16
            go_wp2_with fail
            go_meet
            exact ⟨_, _, _, _, _, _, HP16.out⟩
          · have hq0 : ((kd j : Int) % 4 == 0) = false := beq_eq_false_iff_ne.2 (by omega)
            have hq1 : ((kd j : Int) % 4 == 1) = false := beq_eq_false_iff_ne.2 (by omega)
            have hq2 : ((kd j : Int) % 4 == 2) = false := beq_eq_false_iff_ne.2 (by omega)
            have hq3 : ((kd j : Int) % 4 == 3) = true := beq_iff_eq.2 (by omega)
            go_upto_region 26 with (fail)
            clear o0 o1
            have HPd := Lib.hid (HP.out.keep (upd_drew (fun _ => False) wr))
            obtain ⟨x0, x1, x2, x3, -, -, -, -, -⟩ := HPd.out.var.open
            go_cut [118] (fun s wx => s = .bool false ∧ Play w wx B c0 c1 W k0 k1 p0 q0 p1 q1 L0 L1)
            case first =>
             refine Code.wp_mono OnlyN.imp ?_
             go_region_held3 (fun w' => w'.cell? ⟨W, 0, none⟩ = some (.slice p0 L0.length q0) ∧ w'.cell? ⟨W, 1, none⟩ = some (.slice p1 L1.length q1) ∧ w'.cell? ⟨W, 2, none⟩ = some (.int .i64 k0) ∧ w'.cell? ⟨W, 3, none⟩ = some (.int .i64 k1))
               (first
                 | (with_reducible exact (⟨x0, x1, x2, x3⟩ : _ ∧ _ ∧ _ ∧ _))
                 | (with_reducible exact S3)
                 | (with_reducible exact S4)
                 | (with_reducible exact S5)
                 | (trace_state; fail))
               (first
                 | (go_at_call 25; (with_reducible refine (all_box HPd.out).mono ?_); rintro e w3 ⟨pa, qa, rfl, ra, hp3, hu3⟩
                    have S3 := hp3.var.four
                    have H3 := Lib.hid (And.intro ra (And.intro hp3 hu3)); clear ra hp3 hu3)
                 | (go_at_call 26; (with_reducible refine (all_ref H3.out.2.1).mono ?_); rintro e w4 ⟨pb, qb, rfl, rb, hp4, hu4⟩
                    have S4 := hp4.var.four
                    have H4 := Lib.hid (And.intro rb (And.intro hp4 hu4)); clear rb hp4 hu4)
                 | (go_at_call 24; (with_reducible refine (same_eq pa pb (L0.length + L1.length) qa qb _ _ (L0 ++ L1) _ (H4.out.2.1.two) (owns_upd2 H3.out.1 H4.out.2.2 (HPd.out.far H3.out.1)) H4.out.1).mono ?_); rintro e w5 ⟨rfl, hb5⟩
                    have hp5 := play_mono H4.out.2.1 hb5
                    have S5 := hp5.var.four
                    have H5 := Lib.hid hp5; clear hp5 hb5))
             refine OnlyN.of ?_
             refine (‹∀ (a' : Act) (w' : World), Met _ a' w' → _›) _ _ ?_
             go_meet
             exact ⟨by trivial, H5.out⟩
            case rest =>
             obtain ⟨rfl, hcut⟩ := hcut
             have HP16 := Lib.hid hcut
             clear hcut
             go_wp2_with fail
             go_meet
             exact ⟨_, _, _, _, _, _, HP16.out⟩
        case rest =>
          obtain ⟨p0, q0, p1, q1, L0, L1, hp⟩ := hcut
          have HP := Lib.hid hp
          clear hp
          go_upto_region 28 with (fail)
          have HPd := Lib.hid (HP.out.keep (upd_drew (fun _ => False) _))
          have S0 := HPd.out.var.four
          clear HP
          go_cut [137] (fun s wx => s = .bool false ∧ Play w wx B c0 c1 W k0 k1 p0 q0 p1 q1 L0 L1)
          case first =>
            refine Code.wp_mono OnlyN.imp ?_
            go_region_held3 (fun w' => w'.cell? ⟨W, 0, none⟩ = some (.slice p0 L0.length q0) ∧ w'.cell? ⟨W, 1, none⟩ = some (.slice p1 L1.length q1) ∧ w'.cell? ⟨W, 2, none⟩ = some (.int .i64 k0) ∧ w'.cell? ⟨W, 3, none⟩ = some (.int .i64 k1))
              (with_reducible assumption)
              (first
                | (go_at_call 17; (with_reducible refine (len_box (Hid.out (by assumption))).mono ?_); rintro e w3 ⟨rfl, hp3⟩
                   have S3 := hp3.var.four
                   have H3 := Lib.hid hp3; clear hp3)
                | (go_at_call 27; (with_reducible refine (len_ref (Hid.out (by assumption))).mono ?_); rintro e w3 ⟨rfl, hp3⟩
                   have S3 := hp3.var.four
                   have H3 := Lib.hid hp3; clear hp3)
                | (go_at_call 28; (with_reducible refine (room_box_t (Hid.out (by assumption))).mono ?_); rintro e w3 ⟨rfl, hp3⟩
                   have S3 := hp3.var.four
                   have H3 := Lib.hid hp3; clear hp3)
                | (go_at_call 28; (with_reducible refine (room_box_f (Hid.out (by assumption))).mono ?_); rintro e w3 ⟨rfl, hp3⟩
                   have S3 := hp3.var.four
                   have H3 := Lib.hid hp3; clear hp3)
                | (go_at_call 29; (with_reducible refine (room_ref_t (Hid.out (by assumption))).mono ?_); rintro e w3 ⟨rfl, hp3⟩
                   have S3 := hp3.var.four
                   have H3 := Lib.hid hp3; clear hp3)
                | (go_at_call 29; (with_reducible refine (room_ref_f (Hid.out (by assumption))).mono ?_); rintro e w3 ⟨rfl, hp3⟩
                   have S3 := hp3.var.four
                   have H3 := Lib.hid hp3; clear hp3))
            all_goals
              refine OnlyN.of ?_
              refine (‹∀ (a' : Act) (w' : World), Met _ a' w' → _›) _ _ ?_
              go_meet
              exact ⟨by trivial, Hid.out (by assumption)⟩
          case rest =>
            obtain ⟨rfl, hp⟩ := hcut
            have HP := Lib.hid hp
            clear hp
            go_wp2_with fail
            go_roundw
            case rel => exact ⟨j + 1, _, _, _, _, _, _, by omega, by go_num, HP.out⟩
            case measure => simp [intOf]; omega
      · have hjn : j = len := by omega
        subst hjn
        go_wp2_with fail
        go_ret
        exact ⟨rfl, HP.out.below⟩
end Go.Proofs.Ytohjikijgcpnnaa
