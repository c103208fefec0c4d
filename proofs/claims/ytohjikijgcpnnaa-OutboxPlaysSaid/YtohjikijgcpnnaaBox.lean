/-
  An outbox in memory: two lanes, each a channel's buffer; and what a call may change.
-/
import Derived.Test.YtohjikijgcpnnaaComm
namespace Go.Proofs.Ytohjikijgcpnnaa
open Go.RowKit Go.Conc

/-- What waits in a channel, and how much room it has. -/
def Lane (w : World) (c k : Nat) (l : List Value) : Prop := ∃ s r, w.heap[c]? = some (.chan k l.toArray false s r false)

/-- An outbox: its struct's two cells, its two lanes. -/
structure Box (w : World) (B c0 c1 k0 k1 : Nat) (l0 l1 : List Value) : Prop where
  p0 : w.cell? ⟨B, 0, none⟩ = some (.chan (some c0))
  p1 : w.cell? ⟨B, 1, none⟩ = some (.chan (some c1))
  a : Lane w c0 k0 l0
  b : Lane w c1 k1 l1
  ne : c0 ≠ c1
  nb0 : B ≠ c0
  nb1 : B ≠ c1

/-- What is not in S is as it was. -/
structure Upd (S : Nat → Prop) (w w' : World) : Prop where
  os : w'.os = w.os
  tape : w'.tape = w.tape
  output : w'.output = w.output
  size : w.heap.size ≤ w'.heap.size
  block : ∀ k, k < w.heap.size → ¬ S k → w'.heap[k]? = w.heap[k]?

theorem Upd.refl (S : Nat → Prop) (w : World) : Upd S w w := ⟨rfl, rfl, rfl, Nat.le_refl _, fun _ _ _ => rfl⟩
theorem Upd.trans {S : Nat → Prop} {a b c : World} (h : Upd S a b) (k : Upd S b c) : Upd S a c :=
  ⟨k.os.trans h.os, k.tape.trans h.tape, k.output.trans h.output, Nat.le_trans h.size k.size, fun i hi hs => (k.block i (Nat.lt_of_lt_of_le hi h.size) hs).trans (h.block i hi hs)⟩
theorem Upd.mono {S T : Nat → Prop} {w w' : World} (h : Upd S w w') (hs : ∀ k, k < w.heap.size → S k → T k) : Upd T w w' :=
  ⟨h.os, h.tape, h.output, h.size, fun k hk hn => h.block k hk fun hS => hn (hs k hk hS)⟩
theorem Upd.below {S : Nat → Prop} {w w' : World} {B : Nat} (h : Upd S w w') (hB : B ≤ w.heap.size) (hs : ∀ k, S k → B ≤ k) : Below B w w' :=
  ⟨h.os, h.tape, h.output, h.size, fun k hk => h.block k (Nat.lt_of_lt_of_le hk hB) fun hS => by have := hs k hS; omega⟩
theorem upd_of_below {w w' : World} {S : Nat → Prop} (h : Below w.heap.size w w') : Upd S w w' := ⟨h.os, h.tape, h.output, h.size, fun k hk _ => h.block k hk⟩

theorem heap_lt {w : World} {k : Nat} {o : Obj} (h : w.heap[k]? = some o) : k < w.heap.size := by
  rcases Nat.lt_or_ge k w.heap.size with g | g
  · exact g
  · rw [Array.getElem?_eq_none g] at h
    cases h
theorem heap_setOther (w : World) (c k cap : Nat) (buf : Array Value) (cl : Bool) (s r : Nat) (h : k ≠ c) : (w.setChan c cap buf cl s r false).heap[k]? = w.heap[k]? := by
  simp only [World.setChan]
  rw [Array.getElem?_setIfInBounds_ne (fun e => h e.symm)]
theorem upd_setChan (w : World) (c cap : Nat) (buf : Array Value) (cl : Bool) (s r : Nat) : Upd (· = c) w (w.setChan c cap buf cl s r false) :=
  ⟨rfl, rfl, rfl, by simp [World.setChan], fun k _ hn => heap_setOther w c k cap buf cl s r hn⟩
theorem Lane.lt {w : World} {c k : Nat} {l : List Value} (h : Lane w c k l) : c < w.heap.size := by
  obtain ⟨s, r, h⟩ := h
  exact heap_lt h
theorem Lane.keep {S : Nat → Prop} {w w' : World} {c k : Nat} {l : List Value} (h : Lane w c k l) (hu : Upd S w w') (hn : ¬ S c) : Lane w' c k l := by
  obtain ⟨s, r, h⟩ := h
  exact ⟨s, r, by rw [hu.block c (heap_lt h) hn]; exact h⟩
theorem cell_lt {w : World} {p : Addr} {v : Value} (h : w.cell? p = some v) : p.block < w.heap.size := by
  unfold World.cell? at h
  split at h
  · rename_i hb
    exact heap_lt hb
  · cases h
theorem Upd.cell {S : Nat → Prop} {w w' : World} (hu : Upd S w w') {p : Addr} {v : Value} (h : w.cell? p = some v) (hn : ¬ S p.block) : w'.cell? p = some v := by
  rw [← h]
  exact World.cell?_of_block (w := w) (hu.block p.block (cell_lt h) hn)
theorem Box.keep {S : Nat → Prop} {w w' : World} {B c0 c1 k0 k1 : Nat} {l0 l1 : List Value} (h : Box w B c0 c1 k0 k1 l0 l1) (hu : Upd S w w') (hB : ¬ S B) (h0 : ¬ S c0) (h1 : ¬ S c1) : Box w' B c0 c1 k0 k1 l0 l1 :=
  ⟨hu.cell h.p0 hB, hu.cell h.p1 hB, h.a.keep hu h0, h.b.keep hu h1, h.ne, h.nb0, h.nb1⟩
theorem Box.setA {w w' : World} {B c0 c1 k0 k1 : Nat} {l0 l1 l : List Value} (h : Box w B c0 c1 k0 k1 l0 l1) (hu : Upd (· = c0) w w') (hl : Lane w' c0 k0 l) : Box w' B c0 c1 k0 k1 l l1 :=
  ⟨hu.cell h.p0 h.nb0, hu.cell h.p1 h.nb0, hl, h.b.keep hu (fun e => h.ne e.symm), h.ne, h.nb0, h.nb1⟩
theorem Box.setB {w w' : World} {B c0 c1 k0 k1 : Nat} {l0 l1 l : List Value} (h : Box w B c0 c1 k0 k1 l0 l1) (hu : Upd (· = c1) w w') (hl : Lane w' c1 k1 l) : Box w' B c0 c1 k0 k1 l0 l :=
  ⟨hu.cell h.p0 h.nb1, hu.cell h.p1 h.nb1, h.a.keep hu h.ne, hl, h.ne, h.nb0, h.nb1⟩
end Go.Proofs.Ytohjikijgcpnnaa
