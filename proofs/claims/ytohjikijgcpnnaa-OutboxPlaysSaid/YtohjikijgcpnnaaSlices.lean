/-
  OutboxOrder: the two slices of numbers, in memory.
-/
import Derived.Test.YtohjikijgcpnnaaOrder
import Derived.Laws.AppendOwnNone
namespace Go.Proofs.Ytohjikijgcpnnaa
open Go.RowKit Go.Conc

/-- Numbers as values. -/
def ints (U : List Int) : List Value := U.map (Value.int .i64)
theorem ints_len (U : List Int) : (ints U).length = U.length := by simp [ints]
theorem ints_snoc (U : List Int) (x : Int) : ints (U ++ [x]) = ints U ++ [.int .i64 x] := by simp [ints]
/-- Two slices in the cells of one block. -/
structure Sl (w : World) (base W : Nat) (U V : List Int) (p0 p1 : Option Addr) (q0 q1 : Nat) : Prop where
  s0 : w.cell? ⟨W, 0, none⟩ = some (.slice p0 U.length q0)
  s1 : w.cell? ⟨W, 1, none⟩ = some (.slice p1 V.length q1)
  f0 : w.frozen? ⟨W, 0, none⟩ = false
  f1 : w.frozen? ⟨W, 1, none⟩ = false
  o0 : w.ownsRow base 3 1 (.slice p0 U.length q0) U.length (ints U)
  o1 : w.ownsRow base 3 1 (.slice p1 V.length q1) V.length (ints V)
  ne : ∀ g, (Value.slice p0 U.length q0).ownBlock = some g → (Value.slice p1 V.length q1).ownBlock ≠ some g
  bW : W < base
  sz : base ≤ w.heap.size

theorem owns_upd {S : Nat → Prop} {w w' : World} {base : Nat} {v : Value} {n : Nat} {xs : List Value} (h : w.ownsRow base 3 1 v n xs) (hu : Upd S w w') (hn : ∀ g, v.ownBlock = some g → ¬ S g) : w'.ownsRow base 3 1 v n xs := by
  refine ⟨h.1, ?_⟩
  rcases h.2 with h2 | ⟨g, cap, cur, rfl, hb, hgg, rest⟩
  · exact .inl h2
  · exact .inr ⟨g, cap, cur, rfl, hb, by rw [hu.block g (heap_lt hgg) (hn g rfl)]; exact hgg, rest⟩
theorem Sl.keep {S : Nat → Prop} {w w' : World} {base W : Nat} {U V : List Int} {p0 p1 : Option Addr} {q0 q1 : Nat} (h : Sl w base W U V p0 p1 q0 q1) (hu : Upd S w w') (hs : ∀ k, S k → k < base ∧ k ≠ W) : Sl w' base W U V p0 p1 q0 q1 := by
  have hW : ¬ S W := fun hS => (hs W hS).2 rfl
  have hWl : W < w.heap.size := Nat.lt_of_lt_of_le h.bW h.sz
  refine ⟨hu.cell h.s0 hW, hu.cell h.s1 hW, ?_, ?_, ?_, ?_, h.ne, h.bW, Nat.le_trans h.sz hu.size⟩
  · rw [hu.frozen (p := ⟨W, 0, none⟩) hWl hW]; exact h.f0
  · rw [hu.frozen (p := ⟨W, 1, none⟩) hWl hW]; exact h.f1
  · exact owns_upd h.o0 hu fun g hg hS => by have := (h.o0.lt g hg).1; have := (hs g hS).1; omega
  · exact owns_upd h.o1 hu fun g hg hS => by have := (h.o1.lt g hg).1; have := (hs g hS).1; omega
theorem sl_start (w : World) : Sl (w.alloc (.cells #[.slice none 0 0, .slice none 0 0] 27)) (w.heap.size + 1) w.heap.size [] [] none none 0 0 := by
  obtain ⟨q0, q1, q2, q3⟩ := pair_cells w (.slice none 0 0) (.slice none 0 0) 27
  exact ⟨q0, q1, q2, q3, World.ownsRow_nil _ _ _ _, World.ownsRow_nil _ _ _ _, fun g hg => by simp [Value.ownBlock] at hg, by omega, by simp⟩
/-- An append of a row to a row: whatever either is. -/
theorem wpList_append_src {P : Program} (w : World) {ops : Array Oper} {rest : List Oper} {o : Oper} {a : Act} {Q : Exit → Act → World → Prop} (hgd : o.guard = none) (s x : Operand) (t : TypeId)
    (ho : o.op = .call { callee := .builtin .append, args := #[s, x], argTypes := #[t, t] })
    (base base2 : Nat) (e : TypeId) (i : TypeInfo) (z : Value) (size bytes : Nat) (ht : P.underlying t = some (.slice e)) (hi : P.info? e = some i) (hz : i.zero = some z)
    (hsize : i.size = size) (hby : i.bytes = bytes) (hzs : z.cells.size = size) (hsz : 0 < size)
    (v : Value) (n : Nat) (xs : List Value) (hs : a.eval s = v) (hown : w.ownsRow base e size v n xs)
    (sv : Value) (m : Nat) (news : List Value) (hx : a.eval x = sv) (hsrc : w.ownsRow base2 e size sv m news) (h1 : ∀ u ∈ news, u.oneCell' = true)
    (h63 : n + m ≤ maxLen) (hbytes : (n + m) * bytes ≤ 140737488355328) (hbase : base ≤ w.heap.size)
    (h : ∀ v' w', w'.ownsRow base e size v' (n + m) (xs ++ news) → w.grownBy w' v.ownBlock → wpList P ops Q rest (a.put o.dst v') w') : wpList P ops Q (o :: rest) a w := by
  rcases hsrc.2 with ⟨rfl, rfl⟩ | ⟨g, cap, cur, rfl, _⟩
  · have hn : news = [] := List.eq_nil_of_length_eq_zero (by simpa using hsrc.1)
    subst hn
    refine wpList_append_own_none hgd s x t ho base e i size ht hi v n xs hs hown hx ?_
    exact h v w (by simpa using hown) (World.grownBy.refl _ _)
  · refine wpList_append_own2 w hgd s x t ho base e i z size bytes ht hi hz hsize hby hzs hsz v n xs hs hown ⟨g, 0, none⟩ m cap news hx hsrc.1 (hsrc.cells (g := g) rfl) h1 h63 hbytes hbase ?_
    exact fun v' w' a b _ => h v' w' a b
/-- A row's value and cells. -/
theorem owns_form {w : World} {base : Nat} {v : Value} {n : Nat} {U : List Int} (h : w.ownsRow base 3 1 v n (ints U)) :
    ∃ p q, v = .slice p n q ∧ ∀ j (hj : j < U.length), ∃ g, p = some ⟨g, 0, none⟩ ∧ w.cell? ⟨g, j, none⟩ = some (.int .i64 U[j]) := by
  have hl := h.1
  rw [ints_len] at hl
  rcases h.2 with ⟨rfl, rfl⟩ | ⟨g, cap, cur, rfl, _, hg, _⟩
  · exact ⟨none, 0, rfl, fun j hj => by omega⟩
  · refine ⟨_, cap, rfl, fun j hj => ⟨g, rfl, ?_⟩⟩
    have := h.cells (g := g) rfl j (.int .i64 U[j]) (by simp [ints, hj])
    have e : (⟨g, 0, none⟩ : Addr).add j = ⟨g, j, none⟩ := by unfold Addr.add; split <;> simp_all
    rw [e] at this
    exact this
theorem ints_one (U : List Int) : ∀ u ∈ ints U, u.oneCell' = true := fun u hu => by
  simp [ints] at hu
  obtain ⟨a, _, rfl⟩ := hu
  rfl
theorem int_one (x : Int) : ∀ u ∈ [Value.int .i64 x], u.oneCell' = true := fun u hu => by
  simp at hu
  subst hu
  rfl
/-- What an append to the first slice, and its store, leave. -/
theorem Sl.push0 {w : World} {base W : Nat} {U V : List Int} {p0 p1 : Option Addr} {q0 q1 : Nat} (h : Sl w base W U V p0 p1 q0 q1) (x : Int) (o : Obj) {v' : Value} {w1 : World}
    (ho : w1.ownsRow base 3 1 v' (U.length + 1) (ints U ++ [.int .i64 x])) (hg : (w.alloc o).grownBy w1 (Value.slice p0 U.length q0).ownBlock)
    (hv : v'.ownBlock = (Value.slice p0 U.length q0).ownBlock ∨ ∀ k, v'.ownBlock = some k → w.heap.size + 1 ≤ k) :
    ∃ g q, v' = .slice (some ⟨g, 0, none⟩) (U.length + 1) q ∧ w1.cell? ⟨W, 0, none⟩ = some (.slice p0 U.length q0) ∧ w1.frozen? ⟨W, 0, none⟩ = false ∧
      Sl (w1.setCell ⟨W, 0, none⟩ v') base W (U ++ [x]) V (some ⟨g, 0, none⟩) p1 q q1 ∧ Upd (fun k => base ≤ k ∨ k = W) w (w1.setCell ⟨W, 0, none⟩ v') := by
  have hWl : W < w.heap.size := Nat.lt_of_lt_of_le h.bW h.sz
  have hsza : (w.alloc o).heap.size = w.heap.size + 1 := by simp
  have hrow : ∀ g, (Value.slice p0 U.length q0).ownBlock = some g → base ≤ g ∧ g < w.heap.size := h.o0.lt
  have hWr : some W ≠ (Value.slice p0 U.length q0).ownBlock := fun e => by have := (hrow W e.symm).1; have := h.bW; omega
  have ua := upd_alloc (fun _ => False) w o
  have ug := upd_grown hg
  have c0 : w1.cell? ⟨W, 0, none⟩ = some (.slice p0 U.length q0) := ug.cell (ua.cell h.s0 (fun h => h)) hWr
  have c1 : w1.cell? ⟨W, 1, none⟩ = some (.slice p1 V.length q1) := ug.cell (ua.cell h.s1 (fun h => h)) hWr
  have d0 : w1.frozen? ⟨W, 0, none⟩ = false := by
    rw [ug.frozen (p := ⟨W, 0, none⟩) (by rw [hsza]; show W < _; omega) hWr, ua.frozen (p := ⟨W, 0, none⟩) hWl (fun h => h)]
    exact h.f0
  have d1 : w1.frozen? ⟨W, 1, none⟩ = false := by
    rw [ug.frozen (p := ⟨W, 1, none⟩) (by rw [hsza]; show W < _; omega) hWr, ua.frozen (p := ⟨W, 1, none⟩) hWl (fun h => h)]
    exact h.f1
  have hsz1 : w.heap.size < w1.heap.size := by have := hg.size; omega
  rcases ho.2 with ⟨_, hn⟩ | ⟨g, q, cur, rfl, hb, hgg, hnc, hcm, hcs, ht⟩
  · omega
  · refine ⟨g, q, rfl, c0, d0, ?_, ?_⟩
    · have hgw : ¬ g = W := fun e => by have := h.bW; omega
      have us := upd_setCell w1 ⟨W, 0, none⟩ (.slice (some ⟨g, 0, none⟩) (U.length + 1) q)
      have o1' : w1.ownsRow base 3 1 (.slice p1 V.length q1) V.length (ints V) := owns_upd (h.o1.alloc o) ug fun k hk e => h.ne k e.symm hk
      refine ⟨?_, ?_, ?_, ?_, ?_, ?_, ?_, h.bW, ?_⟩
      · rw [World.cell?_setCell_same _ _ _ c0, List.length_append]; rfl
      · have hne : (⟨W, 0, none⟩ : Addr) ≠ ⟨W, 1, none⟩ := fun e => by cases e
        rw [World.cell?_setCell_other (h := hne)]
        exact c1
      · rw [World.frozen?_setCell]; exact d0
      · rw [World.frozen?_setCell]; exact d1
      · rw [ints_snoc, List.length_append]
        refine owns_upd ho us fun k hk e => ?_
        simp [Value.ownBlock] at hk
        exact hgw (hk.trans e)
      · refine owns_upd o1' us fun k hk e => ?_
        have := (h.o1.lt k hk).1
        have e2 : k = W := e
        have := h.bW
        omega
      · intro k hk hk1
        simp [Value.ownBlock] at hk
        subst hk
        rcases hv with hv | hv
        · exact h.ne g hv.symm hk1
        · have h3 := hv g rfl
          have h4 := (h.o1.lt g hk1).2
          omega
      · have : (w1.setCell ⟨W, 0, none⟩ (.slice (some ⟨g, 0, none⟩) (U.length + 1) q)).heap.size = w1.heap.size := by simp [World.setCell]
        rw [this]
        have := h.sz
        omega
    · refine ((upd_alloc _ w o).trans (ug.mono (fun k _ hk => Or.inl ?_))).trans ((upd_setCell w1 ⟨W, 0, none⟩ _).mono (fun k _ hk => Or.inr hk))
      exact (hrow k hk.symm).1
/-- .. and to the second. -/
theorem Sl.push1 {w : World} {base W : Nat} {U V : List Int} {p0 p1 : Option Addr} {q0 q1 : Nat} (h : Sl w base W U V p0 p1 q0 q1) (x : Int) (o : Obj) {v' : Value} {w1 : World}
    (ho : w1.ownsRow base 3 1 v' (V.length + 1) (ints V ++ [.int .i64 x])) (hg : (w.alloc o).grownBy w1 (Value.slice p1 V.length q1).ownBlock)
    (hv : v'.ownBlock = (Value.slice p1 V.length q1).ownBlock ∨ ∀ k, v'.ownBlock = some k → w.heap.size + 1 ≤ k) :
    ∃ g q, v' = .slice (some ⟨g, 0, none⟩) (V.length + 1) q ∧ w1.cell? ⟨W, 1, none⟩ = some (.slice p1 V.length q1) ∧ w1.frozen? ⟨W, 1, none⟩ = false ∧
      Sl (w1.setCell ⟨W, 1, none⟩ v') base W U (V ++ [x]) p0 (some ⟨g, 0, none⟩) q0 q ∧ Upd (fun k => base ≤ k ∨ k = W) w (w1.setCell ⟨W, 1, none⟩ v') := by
  have hWl : W < w.heap.size := Nat.lt_of_lt_of_le h.bW h.sz
  have hsza : (w.alloc o).heap.size = w.heap.size + 1 := by simp
  have hrow : ∀ g, (Value.slice p1 V.length q1).ownBlock = some g → base ≤ g ∧ g < w.heap.size := h.o1.lt
  have hWr : some W ≠ (Value.slice p1 V.length q1).ownBlock := fun e => by have := (hrow W e.symm).1; have := h.bW; omega
  have ua := upd_alloc (fun _ => False) w o
  have ug := upd_grown hg
  have c0 : w1.cell? ⟨W, 0, none⟩ = some (.slice p0 U.length q0) := ug.cell (ua.cell h.s0 (fun h => h)) hWr
  have c1 : w1.cell? ⟨W, 1, none⟩ = some (.slice p1 V.length q1) := ug.cell (ua.cell h.s1 (fun h => h)) hWr
  have d0 : w1.frozen? ⟨W, 0, none⟩ = false := by
    rw [ug.frozen (p := ⟨W, 0, none⟩) (by rw [hsza]; show W < _; omega) hWr, ua.frozen (p := ⟨W, 0, none⟩) hWl (fun h => h)]
    exact h.f0
  have d1 : w1.frozen? ⟨W, 1, none⟩ = false := by
    rw [ug.frozen (p := ⟨W, 1, none⟩) (by rw [hsza]; show W < _; omega) hWr, ua.frozen (p := ⟨W, 1, none⟩) hWl (fun h => h)]
    exact h.f1
  have hsz1 : w.heap.size < w1.heap.size := by have := hg.size; omega
  rcases ho.2 with ⟨_, hn⟩ | ⟨g, q, cur, rfl, hb, hgg, hnc, hcm, hcs, ht⟩
  · omega
  · refine ⟨g, q, rfl, c1, d1, ?_, ?_⟩
    · have hgw : ¬ g = W := fun e => by have := h.bW; omega
      have us := upd_setCell w1 ⟨W, 1, none⟩ (.slice (some ⟨g, 0, none⟩) (V.length + 1) q)
      have o0' : w1.ownsRow base 3 1 (.slice p0 U.length q0) U.length (ints U) := owns_upd (h.o0.alloc o) ug fun k hk e => h.ne k hk e.symm
      refine ⟨?_, ?_, ?_, ?_, ?_, ?_, ?_, h.bW, ?_⟩
      · have hne : (⟨W, 1, none⟩ : Addr) ≠ ⟨W, 0, none⟩ := fun e => by cases e
        rw [World.cell?_setCell_other (h := hne)]
        exact c0
      · rw [World.cell?_setCell_same _ _ _ c1, List.length_append]; rfl
      · rw [World.frozen?_setCell]; exact d0
      · rw [World.frozen?_setCell]; exact d1
      · refine owns_upd o0' us fun k hk e => ?_
        have := (h.o0.lt k hk).1
        have e2 : k = W := e
        have := h.bW
        omega
      · rw [ints_snoc, List.length_append]
        refine owns_upd ho us fun k hk e => ?_
        simp [Value.ownBlock] at hk
        exact hgw (hk.trans e)
      · intro k hk hk1
        simp [Value.ownBlock] at hk1
        subst hk1
        rcases hv with hv | hv
        · exact h.ne g hk hv.symm
        · have h3 := hv g rfl
          have h4 := (h.o0.lt g hk).2
          omega
      · have : (w1.setCell ⟨W, 1, none⟩ (.slice (some ⟨g, 0, none⟩) (V.length + 1) q)).heap.size = w1.heap.size := by simp [World.setCell]
        rw [this]
        have := h.sz
        omega
    · refine ((upd_alloc _ w o).trans (ug.mono (fun k _ hk => Or.inl ?_))).trans ((upd_setCell w1 ⟨W, 1, none⟩ _).mono (fun k _ hk => Or.inr hk))
      exact (hrow k hk.symm).1
end Go.Proofs.Ytohjikijgcpnnaa
