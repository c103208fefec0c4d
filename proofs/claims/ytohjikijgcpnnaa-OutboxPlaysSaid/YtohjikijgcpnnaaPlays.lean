/-
  OutboxPlays: the walk of the law.
-/
import Derived.Test.YtohjikijgcpnnaaRefRest
namespace Go.Proofs.Ytohjikijgcpnnaa
open Go.RowKit Go.Conc

/-- What the walk is told of the list of calls that came in. -/
def IsOps (w : World) (a : Option Addr) (len : Nat) (kd : Nat → Nat) (st : Nat → ByteArray) : Prop :=
  ∀ j, j < len → ∃ b off, a = some ⟨b, off, none⟩ ∧ w.cell? ⟨b, off + j * 2, none⟩ = some (.int .u8 (kd j)) ∧ w.cell? ⟨b, off + j * 2 + 1, none⟩ = some (.string (st j)) ∧ kd j < 256

set_option maxRecDepth 20000 in
theorem few_any (a0 : Option Addr) (len cap : Nat) (kd : Nat → Nat) (st : Nat → ByteArray) (w : World) (h : IsOps w a0 len kd st) :
    Calls Try.prog 20 #[.slice a0 len cap, .int .i64 60] w fun e w' => ∃ b : Bool, e = .returned (.bool b) ∧ (b = true → len ≤ 60) ∧ w = w' := by
  have HC := Lib.hid h; clear h
  go_enter Try.func20, Try.ntmps20
  go_wp2_with fail
  go_loopw [5] (fun i wr => ∃ j : Nat, j ≤ len ∧ j ≤ 200 ∧ i = .int .i64 j ∧ w = wr) (fun i _ => len - (intOf i).toNat)
  case atStart => exact ⟨0, Nat.zero_le _, by omega, rfl, rfl⟩
  case round =>
    obtain ⟨j, hj, hj2, rfl, rfl⟩ := hrel
    by_cases hjn : j < len
    · by_cases hj3 : j < 200
      · obtain ⟨b, off, rfl, c0, c1, _⟩ := HC.out j hjn
        by_cases hlong : 40 < (st j).size
        · go_wp2_with fail
          go_ret
          exact ⟨false, rfl, by simp, rfl⟩
        · go_wp2_with fail
          go_roundw
          case rel => exact ⟨j + 1, by omega, by omega, by go_num, by trivial⟩
          case measure => simp [intOf]; omega
      · go_wp2_with fail
        go_ret
        exact ⟨_, rfl, fun hb => by simp at hb; omega, rfl⟩
    · go_wp2_with fail
      go_ret
      exact ⟨_, rfl, fun hb => by simp at hb; omega, rfl⟩

/-- What Put does with two lists that have room for k0 and k1. -/
def putL (u : Bool) (x : ByteArray) (k0 k1 : Nat) (L0 L1 : List ByteArray) : List ByteArray × List ByteArray × Bool :=
  match u with
  | true => if L0.length < k0 then (L0 ++ [x], L1, true) else (L0, L1, false)
  | false => if L1.length < k1 then (L0, L1 ++ [x], true) else (L0, L1, false)
theorem putL_fits (u : Bool) (x : ByteArray) (k0 k1 : Nat) (L0 L1 : List ByteArray) (h0 : L0.length ≤ k0) (h1 : L1.length ≤ k1) : (putL u x k0 k1 L0 L1).1.length ≤ k0 ∧ (putL u x k0 k1 L0 L1).2.1.length ≤ k1 := by
  cases u <;> unfold putL <;> simp only <;> split <;> simp <;> omega
theorem put_box (u : Bool) (x : ByteArray) {B c0 c1 k0 k1 : Nat} (L0 L1 : List ByteArray) (w : World) (h : Box w B c0 c1 k0 k1 (strs L0) (strs L1)) :
    Calls Try.prog 13 #[.pointer (some ⟨B, 0, none⟩), .string x, .bool u] w fun e w' => e = .returned (.int .i64 (if (putL u x k0 k1 L0 L1).2.2 = true then 0 else 9)) ∧ Box w' B c0 c1 k0 k1 (strs (putL u x k0 k1 L0 L1).1) (strs (putL u x k0 k1 L0 L1).2.1) ∧ Upd (fun k => k = c0 ∨ k = c1) w w' := by
  cases u
  · by_cases hr : L1.length < k1
    · refine (s_put_room_f x w h (by rw [strs_len]; omega)).mono ?_
      rintro e w' ⟨rfl, hb, hu⟩
      simp only [putL, hr, if_true]
      exact ⟨by trivial, by rw [strs_snoc]; exact hb, hu.mono fun k _ hk => Or.inr hk⟩
    · refine (s_put_full_f x w h (by rw [strs_len]; omega)).mono ?_
      rintro e w' ⟨rfl, rfl⟩
      simp only [putL, hr, if_false]
      exact ⟨rfl, h, Upd.refl _ _⟩
  · by_cases hr : L0.length < k0
    · refine (s_put_room_t x w h (by rw [strs_len]; omega)).mono ?_
      rintro e w' ⟨rfl, hb, hu⟩
      simp only [putL, hr, if_true]
      exact ⟨by trivial, by rw [strs_snoc]; exact hb, hu.mono fun k _ hk => Or.inl hk⟩
    · refine (s_put_full_t x w h (by rw [strs_len]; omega)).mono ?_
      rintro e w' ⟨rfl, rfl⟩
      simp only [putL, hr, if_false]
      exact ⟨rfl, h, Upd.refl _ _⟩
/-- The new row is the old one, or it lies in new memory. -/
def Fresh (w : World) (v v' : Value) : Prop := ∀ g, v'.ownBlock = some g → v.ownBlock = some g ∨ w.heap.size ≤ g
theorem Fresh.old (w : World) (v : Value) : Fresh w v v := fun _ h => .inl h
theorem Fresh.new {w w' : World} {v v' : Value} {e size n : Nat} {xs : List Value} (h : w'.ownsRow w.heap.size e size v' n xs) : Fresh w v v' := fun g hg => .inr (h.lt g hg).1
theorem put_ref (u : Bool) (x : ByteArray) (p0 : Option Addr) (q0 : Nat) (p1 : Option Addr) (q1 : Nat) (k0 k1 : Nat) (L0 L1 : List ByteArray) (w : World) (lo : Nat) (hk0 : k0 ≤ 8) (hk1 : k1 ≤ 8) (h0 : L0.length ≤ k0) (h1 : L1.length ≤ k1) (hlo : lo ≤ w.heap.size)
    (r0 : w.ownsRow lo 9 1 (.slice p0 L0.length q0) L0.length (strs L0)) (r1 : w.ownsRow lo 9 1 (.slice p1 L1.length q1) L1.length (strs L1)) :
    Calls Try.prog 22 #[.agg #[.slice p0 L0.length q0, .slice p1 L1.length q1, .int .i64 k0, .int .i64 k1], .string x, .bool u] w fun e w' =>
      ∃ p q p' q', e = .returned (.tuple #[.agg #[.slice p (putL u x k0 k1 L0 L1).1.length q, .slice p' (putL u x k0 k1 L0 L1).2.1.length q', .int .i64 k0, .int .i64 k1], .bool (putL u x k0 k1 L0 L1).2.2]) ∧
        w'.ownsRow lo 9 1 (.slice p (putL u x k0 k1 L0 L1).1.length q) (putL u x k0 k1 L0 L1).1.length (strs (putL u x k0 k1 L0 L1).1) ∧
        w'.ownsRow lo 9 1 (.slice p' (putL u x k0 k1 L0 L1).2.1.length q') (putL u x k0 k1 L0 L1).2.1.length (strs (putL u x k0 k1 L0 L1).2.1) ∧ Below w.heap.size w w' ∧ Fresh w (.slice p0 L0.length q0) (.slice p (putL u x k0 k1 L0 L1).1.length q) ∧ Fresh w (.slice p1 L1.length q1) (.slice p' (putL u x k0 k1 L0 L1).2.1.length q') := by
  cases u
  · by_cases hr : L1.length < k1
    · refine (r_put_room_f p0 L0.length q0 p1 L1.length q1 k0 k1 x w (by omega) hk1 hr lo L1 r1).mono ?_
      rintro e w' ⟨p, q, rfl, ho, hb⟩
      simp only [putL, hr, if_true, List.length_append, List.length_singleton]
      exact ⟨p0, q0, p, q, rfl, owns_upd2 r0 (upd_of_below (S := fun _ => False) hb) (fun _ _ h => h), owns_mono ho hlo, hb, Fresh.old _ _, Fresh.new ho⟩
    · refine (r_put_full_f p0 L0.length q0 p1 L1.length q1 k0 k1 x w (by omega) hk1 (by omega)).mono ?_
      rintro e w' ⟨rfl, hb⟩
      simp only [putL, hr, if_false]
      exact ⟨p0, q0, p1, q1, rfl, owns_upd2 r0 (upd_of_below (S := fun _ => False) hb) (fun _ _ h => h), owns_upd2 r1 (upd_of_below (S := fun _ => False) hb) (fun _ _ h => h), hb, Fresh.old _ _, Fresh.old _ _⟩
  · by_cases hr : L0.length < k0
    · refine (r_put_room_t p0 L0.length q0 p1 L1.length q1 k0 k1 x w (by omega) hk0 hr lo L0 r0).mono ?_
      rintro e w' ⟨p, q, rfl, ho, hb⟩
      simp only [putL, hr, if_true, List.length_append, List.length_singleton]
      exact ⟨p, q, p1, q1, rfl, owns_mono ho hlo, owns_upd2 r1 (upd_of_below (S := fun _ => False) hb) (fun _ _ h => h), hb, Fresh.new ho, Fresh.old _ _⟩
    · refine (r_put_full_t p0 L0.length q0 p1 L1.length q1 k0 k1 x w (by omega) hk0 (by omega)).mono ?_
      rintro e w' ⟨rfl, hb⟩
      simp only [putL, hr, if_false]
      exact ⟨p0, q0, p1, q1, rfl, owns_upd2 r0 (upd_of_below (S := fun _ => False) hb) (fun _ _ h => h), owns_upd2 r1 (upd_of_below (S := fun _ => False) hb) (fun _ _ h => h), hb, Fresh.old _ _, Fresh.old _ _⟩
/-- What Take does with two lists. -/
def takeL : List ByteArray → List ByteArray → List ByteArray × List ByteArray × ByteArray × Bool
  | x :: L0, L1 => (L0, L1, x, true)
  | [], x :: L1 => ([], L1, x, true)
  | [], [] => ([], [], ⟨#[]⟩, false)
theorem takeL_fits (k0 k1 : Nat) (L0 L1 : List ByteArray) (h0 : L0.length ≤ k0) (h1 : L1.length ≤ k1) : (takeL L0 L1).1.length ≤ k0 ∧ (takeL L0 L1).2.1.length ≤ k1 := by
  cases L0 <;> cases L1 <;> simp [takeL] at * <;> omega
theorem take_box {B c0 c1 k0 k1 : Nat} (L0 L1 : List ByteArray) (w : World) (h : Box w B c0 c1 k0 k1 (strs L0) (strs L1)) :
    Calls Try.prog 15 #[.pointer (some ⟨B, 0, none⟩)] w fun e w' => e = .returned (.tuple #[.string (takeL L0 L1).2.2.1, .bool (takeL L0 L1).2.2.2]) ∧ Box w' B c0 c1 k0 k1 (strs (takeL L0 L1).1) (strs (takeL L0 L1).2.1) ∧ Upd (fun k => k = c0 ∨ k = c1) w w' := by
  cases L0 with
  | cons x L0 =>
    refine (s_take_a x w h).mono ?_
    rintro e w' ⟨rfl, hb, hu⟩
    exact ⟨rfl, hb, hu.mono fun k _ hk => Or.inl hk⟩
  | nil =>
    cases L1 with
    | cons x L1 =>
      refine (s_take_b x w h).mono ?_
      rintro e w' ⟨rfl, hb, hu⟩
      exact ⟨rfl, hb, hu.mono fun k _ hk => Or.inr hk⟩
    | nil =>
      refine (s_take_c w h).mono ?_
      rintro e w' ⟨rfl, rfl⟩
      exact ⟨rfl, h, Upd.refl _ _⟩
theorem take_ref (p0 : Option Addr) (q0 : Nat) (p1 : Option Addr) (q1 : Nat) (k0 k1 : Nat) (L0 L1 : List ByteArray) (w : World) (lo : Nat) (hk0 : k0 ≤ 8) (hk1 : k1 ≤ 8) (h0 : L0.length ≤ k0) (h1 : L1.length ≤ k1) (hlo : lo ≤ w.heap.size)
    (r0 : w.ownsRow lo 9 1 (.slice p0 L0.length q0) L0.length (strs L0)) (r1 : w.ownsRow lo 9 1 (.slice p1 L1.length q1) L1.length (strs L1)) :
    Calls Try.prog 23 #[.agg #[.slice p0 L0.length q0, .slice p1 L1.length q1, .int .i64 k0, .int .i64 k1]] w fun e w' =>
      ∃ p q p' q', e = .returned (.tuple #[.agg #[.slice p (takeL L0 L1).1.length q, .slice p' (takeL L0 L1).2.1.length q', .int .i64 k0, .int .i64 k1], .string (takeL L0 L1).2.2.1, .bool (takeL L0 L1).2.2.2]) ∧
        w'.ownsRow lo 9 1 (.slice p (takeL L0 L1).1.length q) (takeL L0 L1).1.length (strs (takeL L0 L1).1) ∧
        w'.ownsRow lo 9 1 (.slice p' (takeL L0 L1).2.1.length q') (takeL L0 L1).2.1.length (strs (takeL L0 L1).2.1) ∧ Below w.heap.size w w' := by
  cases L0 with
  | cons x L0 =>
    refine (r_take_a p0 L0.length q0 p1 L1.length q1 k0 k1 x w (by simp at h0; omega) lo L0 r0).mono ?_
    rintro e w' ⟨p, q, rfl, ho, hb⟩
    exact ⟨p, q, p1, q1, rfl, owns_mono ho hlo, owns_upd2 r1 (upd_of_below (S := fun _ => False) hb) (fun _ _ h => h), hb⟩
  | nil =>
    cases L1 with
    | cons x L1 =>
      refine (r_take_b p0 q0 p1 L1.length q1 k0 k1 x w (by simp at h1; omega) lo L1 r1).mono ?_
      rintro e w' ⟨p, q, rfl, ho, hb⟩
      exact ⟨p0, q0, p, q, rfl, owns_upd2 r0 (upd_of_below (S := fun _ => False) hb) (fun _ _ h => h), owns_mono ho hlo, hb⟩
    | nil =>
      refine (r_take_c p0 q0 p1 q1 k0 k1 w).mono ?_
      rintro e w' ⟨rfl, hb⟩
      exact ⟨p0, q0, p1, q1, rfl, owns_upd2 r0 (upd_of_below (S := fun _ => False) hb) (fun _ _ h => h), owns_upd2 r1 (upd_of_below (S := fun _ => False) hb) (fun _ _ h => h), hb⟩
end Go.Proofs.Ytohjikijgcpnnaa
