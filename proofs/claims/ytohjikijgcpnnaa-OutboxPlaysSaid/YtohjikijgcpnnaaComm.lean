/-
  A region in which one operation is a communication that can go on at once: a rule for the walk.
-/
import Derived.Test.YtohjikijgcpnnaaRows
import Derived.Conc.LoneCalls
import Derived.Conc.LoneSelect
import Derived.Conc.LoneSelectN
import Derived.WalkKit
import Derived.WalkLawsBesides
import Derived.WalkSpells
import Derived.Lib.Hide
import Derived.Deep.Cut
namespace Go.Proofs.Ytohjikijgcpnnaa
open Go.RowKit Go.Conc

section
variable {P : Program} {b : Frame} {a : Act} {k : List Item} {cs : List Frame} {w w' w1 : World} {ops : Array Oper} {i : Nat} {rest : List Nat} {o : Oper}

/-- An operation that yields a value is one step. -/
theorem step_val {v : Value} (ho : ops[i]? = some o) (hw : Region.wanted o (yielded ops a.tmps) = true) (hr : (execOp a.eval o).run P w = .ok (.value v) w') :
    step P (lone (b.at a (.inRegion ops (i :: rest) :: k)) cs w) = .next (lone (b.at (a.put o.dst v) (.inRegion ops rest :: k)) cs w') := by
  have hfin : (b.at a (.inRegion ops (i :: rest) :: k)).finish v = b.at (a.put o.dst v) (.inRegion ops rest :: k) := by rw [Frame.finish_at, ho]; rfl
  refine step_lone_go ?_
  have hg := stepG_op (P := P) (b := b) (k := k) (cs := cs) (w := w) (rest := rest) ho hw
  rw [hg, ← hfin]
  simp [stepG.apply, hr]

/-- A communication is handed up, whatever frame it stands in. -/
theorem comm_up {cases : Array CommCase} {blocking : Bool} {shape : CommShape} (ho : ops[i]? = some o) (hw : Region.wanted o (yielded ops a.tmps) = true) (hr : (execOp a.eval o).run P w = .ok (.comm cases blocking shape) w') :
    ∃ es, stepG P true (G (b.at a (.inRegion ops (i :: rest) :: k)) cs) w = .comm (G (b.at a (.inRegion ops (i :: rest) :: k)) cs) cases blocking shape w' es := by
  have hg := stepG_oper (P := P) (b := b) (k := k) (cs := cs) (w := w) (rest := rest) (main := true) ho hw
  rw [hg]
  simp [stepG.apply, hr, G, Frame.at, GStep.after]

theorem fin_at (v : Value) (ho : ops[i]? = some o) : (b.at a (.inRegion ops (i :: rest) :: k)).finish v = b.at (a.put o.dst v) (.inRegion ops rest :: k) := by rw [Frame.finish_at, ho]; rfl

variable {c cap s r : Nat} {buf : Array Value} {z v : Value} {closed : Bool}
/-- A select of one receive, something waits. -/
theorem step_recv (ho : ops[i]? = some o) (hw : Region.wanted o (yielded ops a.tmps) = true) (hr : (execOp a.eval o).run P w = .ok (.comm #[rcase c z] false .select) w) (hc : w.heap[c]? = some (.chan cap buf closed s r false)) (hsome : 0 < buf.size) :
    step P (lone (b.at a (.inRegion ops (i :: rest) :: k)) cs w) = .next (lone (b.at (a.put o.dst (.tuple #[goInt 0, .bool true, buf.getD 0 undef])) (.inRegion ops rest :: k)) cs (w.setChan c cap (buf.extract 1 buf.size) closed s (r + 1) false)) := by
  obtain ⟨es, h⟩ := comm_up (b := b) (k := k) (cs := cs) (rest := rest) ho hw hr
  rw [← fin_at _ ho]
  exact step_lone_select_recv_buf h hc hsome
/-- A select of one receive, nothing waits. -/
theorem step_none (ho : ops[i]? = some o) (hw : Region.wanted o (yielded ops a.tmps) = true) (hr : (execOp a.eval o).run P w = .ok (.comm #[rcase c z] false .select) w) (hc : w.heap[c]? = some (.chan cap #[] false s r false)) :
    step P (lone (b.at a (.inRegion ops (i :: rest) :: k)) cs w) = .next (lone (b.at (a.put o.dst (.tuple #[goInt (-1), .bool false, z])) (.inRegion ops rest :: k)) cs w) := by
  obtain ⟨es, h⟩ := comm_up (b := b) (k := k) (cs := cs) (rest := rest) ho hw hr
  rw [← fin_at _ ho]
  exact step_lone_select_default h hc
/-- A select of one send, there is room. -/
theorem step_send (ho : ops[i]? = some o) (hw : Region.wanted o (yielded ops a.tmps) = true) (hr : (execOp a.eval o).run P w = .ok (.comm #[scase c v z] false .select) w) (hc : w.heap[c]? = some (.chan cap buf false s r false)) (hroom : buf.size < cap) :
    step P (lone (b.at a (.inRegion ops (i :: rest) :: k)) cs w) = .next (lone (b.at (a.put o.dst (.tuple #[goInt 0, .bool false])) (.inRegion ops rest :: k)) cs (w.setChan c cap (buf.push v) false (s + 1) r false)) := by
  obtain ⟨es, h⟩ := comm_up (b := b) (k := k) (cs := cs) (rest := rest) ho hw hr
  rw [← fin_at _ ho]
  exact step_lone_select_send_room h hc hroom
/-- A select of one send, there is no room. -/
theorem step_full (ho : ops[i]? = some o) (hw : Region.wanted o (yielded ops a.tmps) = true) (hr : (execOp a.eval o).run P w = .ok (.comm #[scase c v z] false .select) w) (hc : w.heap[c]? = some (.chan cap buf false s r false)) (hfull : cap ≤ buf.size) :
    step P (lone (b.at a (.inRegion ops (i :: rest) :: k)) cs w) = .next (lone (b.at (a.put o.dst (.tuple #[goInt (-1), .bool false])) (.inRegion ops rest :: k)) cs w) := by
  obtain ⟨es, h⟩ := comm_up (b := b) (k := k) (cs := cs) (rest := rest) ho hw hr
  rw [← fin_at _ ho]
  exact step_lone_select_send_full h hc hfull
/-- A plain send, there is room. -/
theorem step_put (ho : ops[i]? = some o) (hw : Region.wanted o (yielded ops a.tmps) = true) (hr : (execOp a.eval o).run P w = .ok (.comm #[scase c v z] true .send) w) (hc : w.heap[c]? = some (.chan cap buf false s r false)) (hroom : buf.size < cap) :
    step P (lone (b.at a (.inRegion ops (i :: rest) :: k)) cs w) = .next (lone (b.at (a.put o.dst undef) (.inRegion ops rest :: k)) cs (w.setChan c cap (buf.push v) false (s + 1) r false)) := by
  obtain ⟨es, h⟩ := comm_up (b := b) (k := k) (cs := cs) (rest := rest) ho hw hr
  rw [← fin_at _ ho]
  exact step_lone_send_room h hc hroom
end

/-- A region whose steps, up to some operation, are known. -/
theorem wp_region_steps {P : Program} {Q : Exit → Act → World → Prop} {a a1 : Act} {w w1 : World} {id : Nat} {ops : Array Oper} (m : Nat)
    (hs : ∀ (b : Frame) (k : List Item) (cs : List Frame), Steps P (lone (b.at a (.inRegion ops (List.range ops.size) :: k)) cs w) (lone (b.at a1 (.inRegion ops (List.range' m (ops.size - m)) :: k)) cs w1))
    (h : wpList P ops Q (ops.toList.drop m) a1 w1) : (Code.region id ops false).wp P Q a w := by
  have hlo : ∀ j, (ops.toList.drop m)[j]? = ops[m + j]? := fun j => by simp
  have hl : (ops.toList.drop m).length = ops.size - m := by simp
  rw [← wpOps_eq_wpList _ m hlo, hl] at h
  intro b k cs
  obtain ⟨e, a', w', hq, harr⟩ := wp_ops _ a1 w1 h b k cs
  exact ⟨e, a', w', hq, .of_steps (.head step_region (hs b k cs)) harr⟩
end Go.Proofs.Ytohjikijgcpnnaa
