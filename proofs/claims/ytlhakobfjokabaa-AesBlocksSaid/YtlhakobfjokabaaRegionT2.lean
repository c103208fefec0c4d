/-
  A region that draws its order, whose last operations write what its first ones read: the last ones may wait for the loads through one another.
-/
import Derived.Test.YtlhakobfjokabaaRegionT
namespace Go.Proofs.Ytlhakobfjokabaa
open Go.RowKit

section
variable {P : Program} {ops : Array Oper} {Q : Exit → Act → World → Prop} {md : Region.Mode} {S : World → Prop} {T : Nat → Bool}
/-- Number j waits for number i, be it through others. -/
def Region.reach (md : Region.Mode) (ops : Array Oper) (i : Nat) : Nat → Nat → Bool
  | 0, _ => false
  | f + 1, j => match ops[j]? with
    | some oj => oj.after.any fun e => Region.binds md e && (e.on == i || Region.reach md ops i f e.on)
    | none => false
/-- What is listed waits for nothing that is not. -/
def Region.shut (md : Region.Mode) (ops : Array Oper) (listed : Array Bool) : Prop :=
  ∀ j oj, ops[j]? = some oj → listed.getD j true = true → ∀ e ∈ oj.after, Region.binds md e = true → listed.getD e.on true = true
theorem reach_listed {listed : Array Bool} {i : Nat} (hc : Region.shut md ops listed) : ∀ f j, Region.reach md ops i f j = true → listed.getD j true = true → listed.getD i true = true
  | 0, _, h, _ => by simp [Region.reach] at h
  | f + 1, j, h, hl => by
    rw [Region.reach] at h
    split at h
    · rename_i oj hoj
      obtain ⟨e, he, hb⟩ := Array.any_eq_true'.1 h
      simp only [Bool.and_eq_true, Bool.or_eq_true, beq_iff_eq] at hb
      have h1 := hc j oj hoj hl e he hb.1
      rcases hb.2 with h2 | h2
      · rw [← h2]; exact h1
      · exact reach_listed hc f e.on h2 h1
    · cases h
theorem getD_set_true (listed : Array Bool) (j k : Nat) (h : listed.getD k true = true) : (listed.setIfInBounds j true).getD k true = true := by
  by_cases hjk : j = k
  · subst hjk
    rcases Nat.lt_or_ge j listed.size with h' | h'
    · simp [h']
    · simp [Array.getElem?_eq_none h']
  · rw [getD_set_ne true hjk]; exact h
theorem getD_set_self (listed : Array Bool) (j : Nat) : (listed.setIfInBounds j true).getD j true = true := by
  rcases Nat.lt_or_ge j listed.size with h' | h'
  · simp [h']
  · simp [Array.getElem?_eq_none h']
theorem shut_next {listed : Array Bool} {j : Nat} (hc : Region.shut md ops listed) (hj : j ∈ Region.ready md ops listed) : Region.shut md ops (listed.setIfInBounds j true) := fun k ok hk hl e he hb => by
  refine getD_set_true _ _ _ ?_
  by_cases hjk : j = k
  · subst hjk
    obtain ⟨_, oj, hoj, hall⟩ := mem_ready.1 hj
    rw [hk] at hoj
    cases hoj
    have := hall e he hb
    rcases Nat.lt_or_ge e.on listed.size with h' | h'
    · simpa [h'] using this
    · simp [Array.getElem?_eq_none h']
  · rw [getD_set_ne true hjk] at hl
    exact hc k ok hk hl e he hb
theorem wpAnyT_first2 {i : Nat} {oi : Oper} {v : Value} (hi : ops[i]? = some oi) (hsel : ∀ (j : Nat) (o : Oper) cs b, ops[j]? = some o → o.op ≠ .select cs b)
    (hQ : ∀ c a w, Q (.panic c) (a.put oi.dst v) w → Q (.panic c) a w)
    (hT : ∀ j oj, ops[j]? = some oj → j ≠ i → T j = true → ∃ f, Region.reach md ops i f j = true) (hTi : T i = false) :
    ∀ (fuel : Nat) (listed : Array Bool) (a : Act) (w : World), Region.shut md ops listed →
      (∀ j oj, ops[j]? = some oj → j ≠ i → listed.getD j true = false → (∀ e ∈ oj.after, Region.binds md e = true → e.on ≠ i) → oi.apart ops oj = true) →
      i ∈ Region.ready md ops listed → YieldsIf P ops S oi v a → S w →
      wpAnyT P md ops Q S T fuel (listed.setIfInBounds i true) (a.put oi.dst v) w → wpAnyT P md ops Q S T (fuel + 1) listed a w := by
  intro fuel
  induction fuel with
  | zero =>
    intro listed a w _ _ hr hy hS H
    refine ⟨fun h => (by rw [h] at hr; cases hr), fun j hj => ?_⟩
    by_cases hji : j = i
    · subst hji; exact hy.wpOp hi hS ⟨fun _ => hS, H⟩
    · have := ready_mono hj hji
      rw [H.1] at this
      cases this
  | succ fuel ih =>
    intro listed a w hsh hfree hr hy hS H
    refine ⟨fun h => (by rw [h] at hr; cases hr), fun j hj => ?_⟩
    by_cases hji : j = i
    · subst hji; exact hy.wpOp hi hS ⟨fun _ => hS, H⟩
    · have h1 := H.2 j (ready_mono hj hji)
      obtain ⟨hjun, oj, hoj, hall⟩ := mem_ready.1 hj
      have hnot : ∀ e ∈ oj.after, Region.binds md e = true → e.on ≠ i := fun e he hb heq => by
        have h1 := hall e he hb
        have h0 := (mem_ready.1 hr).1
        rw [heq] at h1
        rcases Nat.lt_or_ge i listed.size with h' | h'
        · simp [h'] at h0 h1; rw [h0] at h1; cases h1
        · simp [Array.getElem?_eq_none h'] at h1
      have hTj : T j = false := by
        cases ht : T j with
        | false => rfl
        | true =>
          obtain ⟨f, hf⟩ := hT j oj hoj hji ht
          have h2 := reach_listed (shut_next hsh hj) f j hf (getD_set_self _ _)
          rw [getD_set_ne true hji] at h2
          have h0 := (mem_ready.1 hr).1
          rw [h0] at h2
          cases h2
      have h2 := wpOp_putIf hoj (hfree j oj hoj hji hjun hnot) (fun cs b => hsel i oi cs b hi) (fun cs b => hsel j oj cs b hoj) hQ hy h1
      have hfree' : ∀ k ok, ops[k]? = some ok → k ≠ i → (listed.setIfInBounds j true).getD k true = false →
          (∀ e ∈ ok.after, Region.binds md e = true → e.on ≠ i) → oi.apart ops ok = true := fun k ok hk hki hun hno => by
        refine hfree k ok hk hki ?_ hno
        by_cases hjk : j = k
        · subst hjk; exact hjun
        · rw [getD_set_ne true hjk] at hun; exact hun
      refine wpOp_mono (fun a' w' h3 => ⟨fun _ => h3.2.1 hTj, ih (listed.setIfInBounds j true) a' w' (shut_next hsh hj) hfree' (ready_mono hr (Ne.symm hji)) h3.1 (h3.2.1 hTj) ?_⟩) h2
      rw [Array.setIfInBounds_comm _ _ hji]
      exact h3.2.2
/-- Each of T waits for number i, be it through others; what is listed waits for nothing that is not. -/
def Region.waitT2 (md : Region.Mode) (ops : Array Oper) (T : Nat → Bool) (i : Nat) (listed : Array Bool) : Bool :=
  !T i && ((List.range ops.size).all fun j => !T j || (j == i || Region.reach md ops i 20 j)) &&
  (List.range ops.size).all fun j => !(listed.getD j true) || match ops[j]? with
    | some oj => oj.after.all fun e => !(Region.binds md e) || listed.getD e.on true
    | none => true
theorem wpAnyT_take2 {i : Nat} {oi : Oper} {v : Value} {fuel : Nat} {listed : Array Bool} {a : Act} {w : World} (hi : ops.toList[i]? = some oi)
    (hs : Region.noSelect ops = true) (hf : Region.free md ops listed i = true) (hr : (Region.ready md ops listed).contains i = true) (ht : Region.waitT2 md ops T i listed = true)
    (hQ : ∀ c a w, Q (.panic c) (a.put oi.dst v) w → Q (.panic c) a w) (hy : YieldsIf P ops S oi v a) (hS : S w)
    (h : wpAnyT P md ops Q S T fuel (listed.setIfInBounds i true) (a.put oi.dst v) w) : wpAnyT P md ops Q S T (fuel + 1) listed a w := by
  rw [Array.getElem?_toList] at hi
  simp only [Region.waitT2, Bool.and_eq_true, Bool.not_eq_true', List.all_eq_true, List.mem_range] at ht
  refine wpAnyT_first2 hi (Region.noSelect_spec hs) hQ (fun j oj hj hne hTj => ?_) ht.1.1 fuel listed a w (fun j oj hj hl e he hb => ?_) (Region.free_spec hi hf) (by simpa using hr) hy hS h
  · have := ht.1.2 j (Array.getElem?_eq_some_iff.1 hj).1
    simp only [hTj, Bool.or_eq_true, Bool.not_true, Bool.false_eq_true, false_or, beq_iff_eq, hne] at this
    exact ⟨20, this⟩
  · have := ht.2 j (Array.getElem?_eq_some_iff.1 hj).1
    simp only [hl, hj, Bool.or_eq_true, Bool.not_true, Bool.false_eq_true, false_or, Array.all_eq_true'] at this
    have h2 := this e he
    simpa [hb] using h2
end
end Go.Proofs.Ytlhakobfjokabaa
