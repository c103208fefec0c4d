/-
  For every pair of rooms and every list of calls, the law OutboxPlays of the program returns true and leaves its arguments as they were. Conditions: none.
-/
import Derived.Test.YtohjikijgcpnnaaRows
import Derived.Test.YtohjikijgcpnnaaPlays2
import Derived.WalkKit
import Derived.ProofKit
import Derived.OpenShut
import Derived.ShutString
import Derived.ChangeOld
import Derived.Below
import Derived.Deep.Slices
import Derived.Deep.Fields
import Derived.ChangeSame
import Derived.Lib.SmallJoins
namespace Go.Proofs.Ytohjikijgcpnnaa.outboxPlays
open Go.ChangeShapes Go.WideShapes Go.ChangeAt Go.RowKit Go.Deep
open Go.ChangeMaps (open_string shut_string)

theorem own : ownKnob Try.prog.godebug = none := by kernel_rfl
theorem laidOut : laidOutB Try.prog = true := by kernel_rfl

def textOf : Value → ByteArray
  | .string s => s
  | _ => ⟨#[]⟩
def kindOf : Value → Nat
  | .int _ n => n.toNat
  | _ => 0
section
variable {H : Type} {enc : TypeId × Value → H} {P : Program} {w : World} {base : Nat} {spare : Nat → Bool} {held : Bool}
theorem open_slice_fields {t e : TypeId} {fs : Array Field} {fuel : Nat} {cs : List Value} {x : DataW H × List MemPlace} (ht : P.underlying t = some (.slice e)) (he : P.underlying e = some (.struct fs))
    (hone : oneCellFields P fs = true) (hC : P.cellsOf e = fs.size) (h : DataW.trod enc P w base spare held fuel t cs = some x) :
    (cs = [.slice none 0 0] ∧ x = (.nil, [])) ∨
    ∃ (a : Addr) (len cap m : Nat) (D : Nat → DataW H) (Pl : Nat → List MemPlace), cs = [.slice (some a) len cap] ∧ base ≤ a.block ∧ len ≤ cap ∧ cap ≤ maxLen ∧ m = (if spare a.block then cap else len) ∧
      x = (.slice ((List.range len).map D) ((List.range (m - len)).map fun j => D (len + j)), MemPlace.row a (m * fs.size) ++ (List.range m).flatMap Pl) ∧
      ∀ i, i < m → ∃ (ys : List (DataW H × List MemPlace)) (n : Nat), D i = .agg (ys.map (·.1)) ∧ Pl i = ys.flatMap (·.2) ∧ ys.length = fs.size ∧
        ∀ (j : Nat) (f : Field), fs[j]? = some f → ∃ (v : Value) (y : DataW H × List MemPlace), w.cell? (a.add (i * fs.size + j)) = some v ∧ ys[j]? = some y ∧ DataW.trod enc P w base spare held n f.type [v] = some y := by
  rcases open_slice ht h with h0 | ⟨a, len, cap, m, n, D, Pl, hcs, hb, hl, hm, hmm, hx, hi⟩
  · exact .inl h0
  · refine .inr ⟨a, len, cap, m, D, Pl, hcs, hb, hl, hm, hmm, by rw [hC] at hx; exact hx, fun i him => ?_⟩
    obtain ⟨cs', hc, ht'⟩ := hi i him
    rw [hC] at hc
    obtain ⟨ys, n', hn', hy, hlen, hyl, hf⟩ := DataW.trod_struct he ht'
    obtain ⟨_, hcl, hat⟩ := World.cells?_some hc
    simp only [Prod.mk.injEq] at hy
    refine ⟨ys, n', hy.1, hy.2, hyl, fun j f hj => ?_⟩
    obtain ⟨ho, hk⟩ := hone_of hone j f hj
    have hjl : j < fs.size := (Array.getElem?_eq_some_iff.1 hj).1
    have hcell := hat j hjl
    have hv : cs'[j]? = some (cs'[j]'(by omega)) := List.getElem?_eq_getElem (by omega)
    have h1 := hf j f hj
    rw [ho, hk] at h1
    have hone' : (cs'.drop j).take 1 = [cs'[j]'(by omega)] := by
      rw [List.drop_eq_getElem_cons (by omega)]
      rfl
    rw [hone'] at h1
    have hys : ys[j]? = some (ys[j]'(by omega)) := List.getElem?_eq_getElem (by omega)
    refine ⟨_, _, ?_, hys, h1.trans hys⟩
    rw [← Go.Deep.add_add, hcell, hv]
end
section
variable {H : Type} {enc : TypeId × Value → H} {w : World} {base : Nat} {spare : Nat → Bool} {held : Bool}
theorem two_ints {r : Reach} {b0 : Nat} {v : Value} {d : DataW H} {p : List MemPlace} (hv : Value.okWide Try.prog w r b0 39 v) (h : DataW.Trod enc Try.prog w base spare held 39 v d p) : ∃ a b : Int, v = .agg #[.int .i64 a, .int .i64 b] := by
  simp only [Value.okWide, Try.underlying39] at hv
  obtain ⟨cs, rfl, hsz, _⟩ := hv
  have hC : Try.prog.cellsOf 39 = 2 := by kernel_rfl
  have hC3 : Try.prog.cellsOf 3 = 1 := by kernel_rfl
  obtain ⟨c0, c1, rfl⟩ := Go.Joins.array2 (hsz.trans hC)
  obtain ⟨fuel, hf⟩ := h
  obtain ⟨xs, m, _, _, _, hl, hg⟩ := DataW.trod_array Try.underlying39 hf
  have g0 := hg 0 (by omega)
  have g1 := hg 1 (by omega)
  rw [List.getElem?_eq_getElem (by omega)] at g0 g1
  rw [hC3] at g0 g1
  obtain ⟨a, ha, _⟩ := DataW.trod_int Try.underlying3 g0
  obtain ⟨b, hb, _⟩ := DataW.trod_int Try.underlying3 g1
  simp [Value.cells] at ha hb
  exact ⟨a, b, by rw [ha, hb]⟩
theorem ops_told {a : Option Addr} {len cap : Nat} {d : DataW H} {p : List MemPlace} (h : DataW.Trod enc Try.prog w base spare held 49 (.slice a len cap) d p) : ∃ kd st, IsOps w a len kd st := by
  obtain ⟨fuel, hf⟩ := h
  rcases open_slice_fields Try.underlying49 Try.underlying56 (by kernel_rfl) (by kernel_rfl) hf with ⟨hcs, _⟩ | ⟨ad, len', cap', m, D, Pl, hcs, _, hl, hm, hmm, _, hx⟩
  · simp [Value.cells] at hcs
    obtain ⟨rfl, rfl, rfl⟩ := hcs
    exact ⟨fun _ => 0, fun _ => ⟨#[]⟩, fun j hj => by omega⟩
  · simp [Value.cells] at hcs
    obtain ⟨rfl, rfl, rfl⟩ := hcs
    obtain ⟨b, off, spot⟩ := ad
    refine ⟨fun j => kindOf ((w.cell? ⟨b, off + j * 2, none⟩).getD undef), fun j => textOf ((w.cell? ⟨b, off + j * 2 + 1, none⟩).getD undef), fun j hj => ?_⟩
    obtain ⟨ys, n, _, _, _, hf⟩ := hx j (by rw [hmm]; split <;> omega)
    obtain ⟨v0, y0, hc0, _, ht0⟩ := hf 0 _ rfl
    obtain ⟨v1, y1, hc1, _, ht1⟩ := hf 1 _ rfl
    obtain ⟨_, _, _, _, _, hf9⟩ := hx 0 (by rw [hmm]; split <;> omega)
    obtain ⟨_, _, hc9, _, _⟩ := hf9 0 _ rfl
    have hs : spot = none := by simpa [Addr.add] using World.cell?_spot hc9
    subst hs
    have e0 : (⟨b, off, none⟩ : Addr).add (j * 2 + 0) = ⟨b, off + j * 2, none⟩ := by unfold Addr.add; split <;> simp_all
    have e1 : (⟨b, off, none⟩ : Addr).add (j * 2 + 1) = ⟨b, off + j * 2 + 1, none⟩ := by unfold Addr.add; split <;> simp_all [Nat.add_assoc]
    have e0 : w.cell? ⟨b, off + j * 2, none⟩ = some v0 := by rw [← e0]; exact hc0
    have e1 : w.cell? ⟨b, off + j * 2 + 1, none⟩ = some v1 := by rw [← e1]; exact hc1
    obtain ⟨k, hk, _, hw⟩ := DataW.trod_int Try.underlying5 ht0
    obtain ⟨t, ht, _, _⟩ := DataW.trod_string Try.underlying9 ht1
    simp at hk ht
    subst hk ht
    obtain ⟨h0, h1⟩ : 0 ≤ k ∧ k < 256 := by
      simp [Lit.wf, IntKind.min, IntKind.max, IntKind.signed, IntKind.bits] at hw
      omega
    have hkd : kindOf ((w.cell? ⟨b, off + j * 2, none⟩).getD undef) = k.toNat := by rw [e0]; rfl
    have hst : textOf ((w.cell? ⟨b, off + j * 2 + 1, none⟩).getD undef) = t := by rw [e1]; rfl
    refine ⟨b, off, rfl, ?_, ?_, ?_⟩
    · show _ = some (Value.int .u8 ((kindOf ((w.cell? ⟨b, off + j * 2, none⟩).getD undef) : Nat) : Int))
      rw [hkd, Int.toNat_of_nonneg h0]; exact e0
    · show _ = some (Value.string (textOf ((w.cell? ⟨b, off + j * 2 + 1, none⟩).getD undef)))
      rw [hst]; exact e1
    · show kindOf ((w.cell? ⟨b, off + j * 2, none⟩).getD undef) < 256
      rw [hkd]; omega
end

set_option maxRecDepth 100000 in
theorem lifted (os : Os) (started : os.Started) (H : Type) (enc : TypeId × Value → H) :
    ReturnsInHanded {} Try.checked os 5 .any (Rows.outboxPlaysSpec.pre6 enc Try.prog Try.f5 Rows.outboxPlaysRow.domain false) (Rows.outboxPlaysSpec.post enc Try.prog Try.f5 false true false false) := by
  refine returnsInHanded_of_change (C := Try.checked) own started (by kernel_rfl) Try.func5
    (ChangeSpec.witness6 (enc := enc) (C := Try.checked) false ⟨#[], #[.agg #[.int .i64 0, .int .i64 0], .slice none 0 0], []⟩ 8 (by kernel_rfl) (by kernel_rfl) (by kernel_rfl) (by kernel_rfl)) ?_
  intro W base args ds gs before hval0 hW hcnd _
  have hval : ∀ (j : Nat) t v, Try.f5.params[j]? = some t → args[j]? = some v → Value.okWide Try.prog W .any base t v := hval0
  have hW' := hW
  obtain ⟨p, q, hA0, hV, rfl, hfz, hnd⟩ := hW
  have hA : DataW.TrodAll enc Try.prog W 0 (fun _ => true) true Try.f5.params.toList args.toList ds p := hA0
  rw [Try.params5] at hA hval
  obtain ⟨v0, vs0, d0, ds0, p0, q0, hargs, rfl, rfl, h0, r0⟩ := trodAll_cons hA
  obtain ⟨v1, vs1, d1, ds1, p1, q1, rfl, rfl, rfl, h1, r1⟩ := trodAll_cons r0
  obtain ⟨rfl, rfl, rfl⟩ := trodAll_nil r1
  obtain rfl : args = #[v0, v1] := by cases args; simp_all
  obtain ⟨rfl, rfl⟩ := trodVars_none hV
  obtain ⟨a, b, rfl⟩ := two_ints (hval 0 39 v0 rfl rfl) h0
  obtain ⟨a1, len1, cap1, rfl⟩ := okWide_slice Try.underlying49 (hval 1 49 v1 rfl rfl)
  simp only [List.append_nil] at hW'
  have k0 := h0
  have k1 := h1
  have lt0 : ∀ x ∈ p0, x.block < W.heap.size := by obtain ⟨m, hm⟩ := k0; exact DataW.trod_lt m _ _ _ hm
  have lt1 : ∀ x ∈ p1, x.block < W.heap.size := by obtain ⟨m, hm⟩ := k1; exact DataW.trod_lt m _ _ _ hm
  obtain ⟨kd, st, w0⟩ := ops_told h1
  clear hA0 hval0
  refine (plays_any a b a1 len1 cap1 kd st W w0).mono fun e W' ⟨he, bel⟩ => ?_
  subst he
  exact ⟨_, rfl, _, _, _, [], _, [], hW', trodAll_mk1 (shut_bool Try.underlying4 _), (trodAll_cons_mk (Below.trod laidOut (by kernel_rfl) (of_decide_eq_true (by kernel_rfl)) k0 bel lt0) (trodAll_cons_mk (Below.trod laidOut (by kernel_rfl) (of_decide_eq_true (by kernel_rfl)) k1 bel lt1) trodAll_mk0)), rfl, bel.frame _, fun h => by cases h⟩

theorem over : Rows.outboxPlaysRow.holds Try.pinned (OpenSpec.ofChange Rows.outboxPlaysSpec) :=
  OpenClaim.holds_of_wide 5 Try.f5 rfl rfl rfl rfl rfl rfl rfl ⟨rfl, rfl, rfl, rfl, rfl⟩ rfl rfl rfl rfl rfl (by kernel_rfl) Try.func5 (by kernel_rfl)
    (of_decide_eq_true (by kernel_rfl)) (by unfold Func.isWrapper; first | (rw [if_pos (by decide +kernel)]; kernel_rfl) | (rw [if_neg (by decide +kernel)]; exact ⟨rfl, rfl⟩))
    (fun os started H enc _ => lifted os started H enc)

/-- The statement. -/
theorem proved : Rows.OutboxPlaysSaid := over
#print axioms proved
end Go.Proofs.Ytohjikijgcpnnaa.outboxPlays
