/-
  What the reference's Do has in memory.
-/
import Derived.Test.YtlhakobfjokabaaWords2
import Derived.Deep.OwnRows
namespace Go.Proofs.Ytlhakobfjokabaa
open Go.RowKit

theorem i63 : (Try.prog.info? 63).map (·.size) = some 16 := by kernel_rfl
theorem zero63 (w : World) : (zeroValue 63).run Try.prog w = .ok (.agg (ints 16 fun _ => 0)) w := by kernel_rfl
theorem make16 (w : World) : (Instr.makeSlice 31 (.int .i64 16) (.int .i64 16)).run Try.prog w = .ok (.slice (some ⟨w.heap.size, 0, none⟩) 16 16) (w.alloc (.cells (arr 16 fun _ => 0) 5)) := by
  have h := run_make_row' (P := Try.prog) 31 5 (.int .u8 0) 1 Try.underlying31 info5 rfl .i64 .i64 16 (by omega) (by omega) w
  have e : madeCells #[Value.int .u8 0] 16 = arr 16 fun _ => 0 := by kernel_rfl
  rw [e] at h
  exact h
/-- The reference's own way to turn. -/
theorem trn_ref (f : Nat → Nat) (n : Nat) (h : n < 16) : f ((n + 4 * (n % 4)) % 16) = trn 1 f n := by
  unfold trn
  congr 1
  omega
/-- The reference's own way to mix. -/
theorem mx_ref (F : Nat → Nat) (n : Nat) : mx cF F n = mul (F n) 2 ^^^ mul (F (n / 4 * 4 + (n % 4 + 1) % 4)) 3 ^^^ F (n / 4 * 4 + (n % 4 + 2) % 4) ^^^ F (n / 4 * 4 + (n % 4 + 3) % 4) := by
  rw [mx_col]
  unfold col
  show mul _ 2 ^^^ mul _ 3 ^^^ mul _ 1 ^^^ mul _ 1 = _
  rw [mul_oneR, mul_oneR, Nat.mul_comm (n / 4) 4, show 4 * (n / 4) + (n % 4 + 0) % 4 = n by omega]
/-- The places of a column that one of its bytes is mixed of. -/
theorem mix_at (m : Nat) (hm : m < 16) : ∃ q d c s1 s2 s3 p1 p2 p3 : Nat,
    ((m : Int).tmod 4 = (q : Int) ∧ (m : Int) % 4 = (q : Int) ∧ (m : Int).tdiv 4 = (d : Int) ∧ (m : Int) / 4 = (d : Int) ∧ (d : Int) * 4 = (c : Int)) ∧
    (((q : Int) + 1).tmod 4 = (s1 : Int) ∧ ((q : Int) + 2).tmod 4 = (s2 : Int) ∧ ((q : Int) + 3).tmod 4 = (s3 : Int) ∧ ((q : Int) + 1) % 4 = (s1 : Int) ∧ ((q : Int) + 2) % 4 = (s2 : Int) ∧ ((q : Int) + 3) % 4 = (s3 : Int)) ∧
    ((c : Int) + (s1 : Int) = (p1 : Int) ∧ (c : Int) + (s2 : Int) = (p2 : Int) ∧ (c : Int) + (s3 : Int) = (p3 : Int)) ∧
    ((q : Int) < 4 ∧ (s1 : Int) < 4 ∧ (s2 : Int) < 4 ∧ (s3 : Int) < 4 ∧ (p1 : Int) < 16 ∧ (p2 : Int) < 16 ∧ (p3 : Int) < 16 ∧ (d : Int) < 4 ∧ (c : Int) ≤ 12) ∧
    (IntKind.i64.wrap ((q : Int) + 1) = (q : Int) + 1 ∧ IntKind.i64.wrap ((q : Int) + 2) = (q : Int) + 2 ∧ IntKind.i64.wrap ((q : Int) + 3) = (q : Int) + 3 ∧ IntKind.i64.wrap (s1 : Int) = (s1 : Int) ∧ IntKind.i64.wrap (s2 : Int) = (s2 : Int) ∧ IntKind.i64.wrap (s3 : Int) = (s3 : Int) ∧ IntKind.i64.wrap (p1 : Int) = (p1 : Int) ∧ IntKind.i64.wrap (p2 : Int) = (p2 : Int) ∧ IntKind.i64.wrap (p3 : Int) = (p3 : Int)) ∧
    (p1 = m / 4 * 4 + (m % 4 + 1) % 4 ∧ p2 = m / 4 * 4 + (m % 4 + 2) % 4 ∧ p3 = m / 4 * 4 + (m % 4 + 3) % 4) := by
  refine ⟨m % 4, m / 4, m / 4 * 4, (m % 4 + 1) % 4, (m % 4 + 2) % 4, (m % 4 + 3) % 4, _, _, _, ⟨?_, ?_, ?_, ?_, ?_⟩, ⟨?_, ?_, ?_, ?_, ?_, ?_⟩, ⟨?_, ?_, ?_⟩, ⟨?_, ?_, ?_, ?_, ?_, ?_, ?_, ?_, ?_⟩, ⟨?_, ?_, ?_, ?_, ?_, ?_, ?_, ?_, ?_⟩, rfl, rfl, rfl⟩
  case refine_1 => rw [Int.tmod_eq_emod_of_nonneg (by omega)]; omega
  case refine_3 => rw [Int.tdiv_eq_ediv_of_nonneg (by omega)]; omega
  case refine_6 => rw [Int.tmod_eq_emod_of_nonneg (by omega)]; omega
  case refine_7 => rw [Int.tmod_eq_emod_of_nonneg (by omega)]; omega
  case refine_8 => rw [Int.tmod_eq_emod_of_nonneg (by omega)]; omega
  all_goals first | omega | (rw [IntKind.wrap_i64]; omega)
/-- What is joined, step by step. -/
theorem join5 (a b c d e : Nat) (ha : a < 256) (hb : b < 256) (hc : c < 256) (hd : d < 256) (he : e < 256) :
    bits .xor .i64 (a : Int) (b : Int) = ((a ^^^ b : Nat) : Int) ∧ bits .xor .i64 ((a ^^^ b : Nat) : Int) (c : Int) = ((a ^^^ b ^^^ c : Nat) : Int) ∧
    bits .xor .i64 ((a ^^^ b ^^^ c : Nat) : Int) (d : Int) = ((a ^^^ b ^^^ c ^^^ d : Nat) : Int) ∧ bits .xor .i64 ((a ^^^ b ^^^ c ^^^ d : Nat) : Int) (e : Int) = ((a ^^^ b ^^^ c ^^^ d ^^^ e : Nat) : Int) := by
  have h1 : a ^^^ b < 256 := Ytlhakobfjokabaa.x8 ha hb
  have h2 : a ^^^ b ^^^ c < 256 := Ytlhakobfjokabaa.x8 h1 hc
  have h3 : a ^^^ b ^^^ c ^^^ d < 256 := Ytlhakobfjokabaa.x8 h2 hd
  exact ⟨xor64 _ _ (by omega) (by omega), xor64 _ _ (by omega) (by omega), xor64 _ _ (by omega) (by omega), xor64 _ _ (by omega) (by omega)⟩
/-- What the reference's Do has in memory. -/
structure RdoR (w wr : World) (T g : Nat → Nat) : Prop where
  t : Bli wr w.heap.size 36 256 T
  s : Bli wr (w.heap.size + 1) 63 16 g
  u : Below w.heap.size w wr
theorem RdoR.start (w : World) (T : Nat → Nat) : RdoR w ((w.alloc (.cells (ints 256 T) 36)).alloc (.cells (ints 16 fun _ => 0) 63)) T fun _ => 0 := by
  have z1 : (w.alloc (.cells (ints 256 T) 36)).heap.size = w.heap.size + 1 := World.size_alloc _ _
  have h1 := Bli.new (w.alloc (.cells (ints 256 T) 36)) 63 16 fun _ => 0
  rw [z1] at h1
  exact ⟨(Bli.new w 36 256 T).alloc _, h1, ((Below.refl _ _).alloc (Nat.le_refl _) _).alloc (by rw [z1]; omega) _⟩
theorem RdoR.put {w wr : World} {T g g' : Nat → Nat} (h : RdoR w wr T g) {o x : Nat} (hg : Ytlhakobfjokabaa.put g o x = g') : RdoR w (wr.setCell ⟨w.heap.size + 1, o, none⟩ (.int .i64 x)) T g' := by
  subst hg
  exact ⟨h.t.other (by simp) _, h.s.set o x, h.u.setCell (p := ⟨w.heap.size + 1, o, none⟩) (by simp) _⟩
theorem RdoR.upd {w wr w6 : World} {T g : Nat → Nat} (h : RdoR w wr T g) {S : Nat → Prop} (hu : Upd S wr w6) (hS : ∀ k, S k → w.heap.size + 1 < k) : RdoR w w6 T g :=
  ⟨h.t.keep hu (fun e => by have := hS _ e; omega), h.s.keep hu (fun e => by have := hS _ e; omega), h.u.trans (hu.below h.u.size (fun k e => by have := hS k e; omega))⟩
/-- A block that lies above those two. -/
theorem RdoR.put2 {w wr : World} {T g F F' : Nat → Nat} {X : Nat} (h : RdoR w wr T g) (hb : Bli wr X 63 16 F) (hX : w.heap.size + 1 < X) {o x : Nat} (hF : Ytlhakobfjokabaa.put F o x = F') :
    RdoR w (wr.setCell ⟨X, o, none⟩ (.int .i64 x)) T g ∧ Bli (wr.setCell ⟨X, o, none⟩ (.int .i64 x)) X 63 16 F' := by
  subst hF
  exact ⟨h.upd (upd_setCell wr ⟨X, o, none⟩ _) (fun k e => by simp at e; omega), hb.set o x⟩

end Go.Proofs.Ytlhakobfjokabaa
