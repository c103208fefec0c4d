/-
  OutboxApart: the walk of the law.
-/
import Derived.Test.YtohjikijgcpnnaaPAll
import Derived.Deep.QuietTactic
import Derived.BigQuiet
import Derived.Deep.DeepCutAuto
namespace Go.Proofs.Ytohjikijgcpnnaa
open Go.RowKit Go.Conc

/-- Two outboxes beside each other: one of strings, one of pairs. -/
structure Two (w0 w : World) (B c0 c1 D d0 d1 M : Nat) (S : List ByteArray) (P : List (Int × Int)) : Prop where
  o : Box w B c0 c1 8 8 [] (strs S)
  p : Box w D d0 d1 8 8 [] (prs P)
  lo : w0.heap.size ≤ B ∧ w0.heap.size ≤ c0 ∧ w0.heap.size ≤ c1
  mid : B < M ∧ c0 < M ∧ c1 < M
  hi : M ≤ D ∧ M ≤ d0 ∧ M ≤ d1
  below : Below w0.heap.size w0 w
theorem Two.setO {w0 w w' : World} {B c0 c1 D d0 d1 M : Nat} {S S' : List ByteArray} {P : List (Int × Int)} (h : Two w0 w B c0 c1 D d0 d1 M S P) (hb : Box w' B c0 c1 8 8 [] (strs S')) (hu : Upd (· = c1) w w') : Two w0 w' B c0 c1 D d0 d1 M S' P := by
  have h1 := h.lo
  have h2 := h.mid
  have h3 := h.hi
  refine ⟨hb, h.p.keep hu ?_ ?_ ?_, h.lo, h.mid, h.hi, h.below.trans (hu.below h.below.size fun k hk => ?_)⟩
  · show ¬ D = c1
    omega
  · show ¬ d0 = c1
    omega
  · show ¬ d1 = c1
    omega
  · have hk : k = c1 := hk
    omega
theorem Two.setP {w0 w w' : World} {B c0 c1 D d0 d1 M : Nat} {S : List ByteArray} {P P' : List (Int × Int)} (h : Two w0 w B c0 c1 D d0 d1 M S P) {T : Nat → Prop} (hb : Box w' D d0 d1 8 8 [] (prs P')) (hu : Upd T w w') (ht : ∀ k, T k → k = d0 ∨ k = d1) : Two w0 w' B c0 c1 D d0 d1 M S P' := by
  have h1 := h.lo
  have h2 := h.mid
  have h3 := h.hi
  refine ⟨h.o.keep hu (fun e => ?_) (fun e => ?_) (fun e => ?_), hb, h.lo, h.mid, h.hi, h.below.trans (hu.below h.below.size fun k hk => ?_)⟩
  · rcases ht _ e with e | e <;> omega
  · rcases ht _ e with e | e <;> omega
  · rcases ht _ e with e | e <;> omega
  · rcases ht _ hk with e | e <;> omega
theorem Two.keep {w0 w w' : World} {B c0 c1 D d0 d1 M : Nat} {S : List ByteArray} {P : List (Int × Int)} (h : Two w0 w B c0 c1 D d0 d1 M S P) (hu : Upd (fun _ => False) w w') : Two w0 w' B c0 c1 D d0 d1 M S P :=
  ⟨h.o.keep hu (fun h => h) (fun h => h) (fun h => h), h.p.keep hu (fun h => h) (fun h => h) (fun h => h), h.lo, h.mid, h.hi, h.below.trans (hu.below h.below.size fun _ hk => hk.elim)⟩
theorem prf_at : ∀ (U : List (Int × Int)) (j : Nat) (hj : j < U.length), (prf U)[j * 2]? = some (.int .i64 U[j].1) ∧ (prf U)[j * 2 + 1]? = some (.int .i64 U[j].2)
  | a :: U, 0, _ => ⟨rfl, rfl⟩
  | a :: U, j + 1, hj => by
    have h := prf_at U j (by simpa using hj)
    have e : prf (a :: U) = .int .i64 a.1 :: .int .i64 a.2 :: prf U := rfl
    rw [e, show (j + 1) * 2 = j * 2 + 1 + 1 by omega]
    exact h
/-- What is put so far. -/
def putS (str : Nat → ByteArray) (k : Nat) : List ByteArray := (List.range (min k 8)).map str
def putP (str : Nat → ByteArray) (k : Nat) : List (Int × Int) := (List.range (min k 8)).map fun (j : Nat) => ((j : Int), ((str j).size : Int))
theorem putS_len (str : Nat → ByteArray) (k : Nat) : (putS str k).length = min k 8 := by simp [putS]
theorem putP_len (str : Nat → ByteArray) (k : Nat) : (putP str k).length = min k 8 := by simp [putP]
theorem putS_room (str : Nat → ByteArray) (k : Nat) (h : k < 8) : putS str (k + 1) = putS str k ++ [str k] := by
  unfold putS
  rw [show min (k + 1) 8 = k + 1 by omega, show min k 8 = k by omega, List.range_succ, List.map_append]
  rfl
theorem putP_room (str : Nat → ByteArray) (k : Nat) (h : k < 8) : putP str (k + 1) = putP str k ++ [((k : Int), ((str k).size : Int))] := by
  unfold putP
  rw [show min (k + 1) 8 = k + 1 by omega, show min k 8 = k by omega, List.range_succ, List.map_append]
  rfl
theorem putS_full (str : Nat → ByteArray) (k : Nat) (h : 8 ≤ k) : putS str (k + 1) = putS str k := by
  unfold putS
  rw [show min (k + 1) 8 = 8 by omega, show min k 8 = 8 by omega]
theorem putP_full (str : Nat → ByteArray) (k : Nat) (h : 8 ≤ k) : putP str (k + 1) = putP str k := by
  unfold putP
  rw [show min (k + 1) 8 = 8 by omega, show min k 8 = 8 by omega]

set_option maxHeartbeats 1000000 in
theorem apart_none (a0 : Option Addr) (len cap : Nat) (n : Int) (w : World) (h : 10 < len) :
    Calls Try.prog 4 #[.slice a0 len cap, .int .u8 n] w fun e w' => e = .returned (.bool true) ∧ Below w.heap.size w w' := by
  go_enter Try.func4, Try.ntmps4
  go_wp2_with fail
  refine (awake_any _).mono ?_
  rintro e w1 ⟨rfl, hb1⟩
  go_wp2_with fail
  refine (awake_any _).mono ?_
  rintro e w2 ⟨rfl, hb2⟩
  go_wp2_with fail
  go_ret
  exact ⟨rfl, chain hb1 hb2⟩

/-- A row of pairs: its value, its cells. -/
theorem powns_form {w : World} {base : Nat} {v : Value} {n : Nat} {U : List (Int × Int)} (h : w.ownsRow base 39 2 v n (prf U)) :
    ∃ p q, v = .slice p n q ∧ ∀ j (hj : j < U.length), ∃ g, p = some ⟨g, 0, none⟩ ∧ w.cell? ⟨g, j * 2, none⟩ = some (.int .i64 U[j].1) ∧ w.cell? ⟨g, j * 2 + 1, none⟩ = some (.int .i64 U[j].2) := by
  have hl := h.1
  rw [prf_len] at hl
  rcases h.2 with ⟨rfl, rfl⟩ | ⟨g, cap, cur, rfl, _, hg, _⟩
  · exact ⟨none, 0, rfl, fun j hj => by omega⟩
  · refine ⟨_, cap, rfl, fun j hj => ⟨g, rfl, ?_, ?_⟩⟩
    · have := h.cells (g := g) rfl (j * 2) (.int .i64 U[j].1) (prf_at U j hj).1
      have e : (⟨g, 0, none⟩ : Addr).add (j * 2) = ⟨g, j * 2, none⟩ := by unfold Addr.add; split <;> simp_all
      rw [e] at this
      exact this
    · have := h.cells (g := g) rfl (j * 2 + 1) (.int .i64 U[j].2) (prf_at U j hj).2
      have e : (⟨g, 0, none⟩ : Addr).add (j * 2 + 1) = ⟨g, j * 2 + 1, none⟩ := by unfold Addr.add; split <;> simp_all
      rw [e] at this
      exact this

theorem two_start {w0 w1 w2 : World} {B c0 c1 D d0 d1 : Nat} (hl : Below w0.heap.size w0 w1) (ho : Box w1 B c0 c1 8 8 [] []) (z : w0.heap.size ≤ B ∧ w0.heap.size ≤ c0 ∧ w0.heap.size ≤ c1)
    (hl2 : Below w1.heap.size w1 w2) (hp : Box w2 D d0 d1 8 8 [] []) (z2 : w1.heap.size ≤ D ∧ w1.heap.size ≤ d0 ∧ w1.heap.size ≤ d1) : Two w0 w2 B c0 c1 D d0 d1 w1.heap.size [] [] :=
  ⟨ho.keep (upd_of_below (S := fun _ => False) hl2) (fun h => h) (fun h => h) (fun h => h), hp, z, ⟨cell_lt ho.p0, ho.a.lt, ho.b.lt⟩, z2, chain hl hl2⟩
theorem eq39 (a b c d : Int) (w : World) : (Op.equalIn 10000 39 (.agg #[.int .i64 a, .int .i64 b]) (.agg #[.int .i64 c, .int .i64 d])).run Try.prog w = .ok (a == c && b == d) w := by
  have u3 := Try.underlying3
  have a3 := Try.isAgg3
  have z3 := Try.sizeOf3
  rw [show (10000 : Nat) = 9999 + 1 from rfl, Op.equalIn]
  simp only [Sem.run_bind, run_underlying Try.underlying39, Result.andThen_ok]
  simp only [Std.Legacy.Range.forIn_eq_forIn_range', Std.Legacy.Range.size, Nat.sub_zero, Nat.add_sub_cancel, Nat.div_one, List.range'_succ, List.range'_zero, List.forIn_cons, List.forIn_nil]
  go_simp
  by_cases h1 : a = c <;> by_cases h2 : b = d <;> simp [h1, h2]
theorem upd_drewN (S : Nat → Prop) (w : World) (n : Nat) : Upd S w (w.drewN n) := ⟨rfl, rfl, rfl, Nat.le_refl _, fun _ _ _ => rfl⟩
theorem putP_at (str : Nat → ByteArray) (k j : Nat) (h : j < min k 8) : ∃ hj : j < (putP str k).length, (putP str k)[j] = ((j : Int), ((str j).size : Int)) ∧ prs ((putP str k).drop j) = .agg #[.int .i64 (j : Int), .int .i64 ((str j).size : Int)] :: prs ((putP str k).drop (j + 1)) := by
  have hl : j < (putP str k).length := by rw [putP_len]; exact h
  have e : (putP str k)[j] = ((j : Int), ((str j).size : Int)) := by simp [putP]
  refine ⟨hl, e, ?_⟩
  rw [List.drop_eq_getElem_cons hl, e]
  rfl
theorem owns_base {w : World} {base e size n : Nat} {v : Value} {xs : List Value} (h : w.ownsRow base e size v n xs) : ∀ g, v.ownBlock = some g → base ≤ g := fun g hg => by
  rcases h.2 with ⟨rfl, rfl⟩ | ⟨g', cap, cur, rfl, hb, _⟩
  · cases hg
  · cases hg
    exact hb

set_option maxRecDepth 100000 in
set_option maxHeartbeats 4000000 in
theorem apart_some (a0 : Option Addr) (len cap n : Nat) (str : Nat → ByteArray) (w : World) (h : len ≤ 10) (hn : n < 256) (hcell : ∀ j, j < len → ∃ b off, a0 = some ⟨b, off, none⟩ ∧ w.cell? ⟨b, off + j, none⟩ = some (.string (str j))) :
    Calls Try.prog 4 #[.slice a0 len cap, .int .u8 n] w fun e w' => e = .returned (.bool true) ∧ Below w.heap.size w w' := by
  have HC := Lib.hid hcell; clear hcell
  go_enter Try.func4, Try.ntmps4
  go_wp2_with fail
  refine (awake_any _).mono ?_
  rintro e w1 ⟨rfl, hb1⟩
  have HB1 := Lib.hid hb1; clear hb1
  go_wp2_with fail
  refine (s_new 8 8 _).mono ?_
  rintro e w2 ⟨B, c0, c1, rfl, hb2, hbel2, z0, z1, z2⟩
  rw [show rm 8 = 8 from rfl] at hb2
  have HB2 := Lib.hid hb2
  have HL2 := Lib.hid hbel2
  have HZ2 := Lib.hid (And.intro z0 (And.intro z1 z2))
  clear hb2 hbel2 z0 z1 z2
  go_wp2_with fail
  refine (p_new 8 8 _).mono ?_
  rintro e w3 ⟨D, d0, d1, rfl, hb3, hbel3, y0, y1, y2⟩
  rw [show rm 8 = 8 from rfl] at hb3
  have hs := HB1.out.size
  have hzz := HZ2.out
  have HT := Lib.hid (two_start (chain HB1.out HL2.out) HB2.out ⟨by omega, by omega, by omega⟩ hbel3 hb3 ⟨y0, y1, y2⟩)
  clear hb3 hbel3 y0 y1 y2 hs hzz HB2 HL2 HZ2 HB1
  generalize w2.heap.size = M at *
  go_wp2_with fail
  go_loopw [7] (fun i wr => ∃ k : Nat, k ≤ len ∧ i = .int .i64 k ∧ Two w wr B c0 c1 D d0 d1 M (putS str k) (putP str k)) (fun i _ => len - (intOf i).toNat)
  case atStart => exact ⟨0, Nat.zero_le _, rfl, by have := HT.out; simpa [putS, putP] using this⟩
  case round =>
    obtain ⟨k, hk, rfl, ht⟩ := hrel
    rename_i wr
    by_cases hlt : k < len
    · obtain ⟨b, off, rfl, hcb⟩ := HC.out k hlt
      have hbl : b < w.heap.size := cell_lt hcb
      have hcr : wr.cell? ⟨b, off + k, none⟩ = some (.string (str k)) := by rw [ht.below.cell (p := ⟨b, off + k, none⟩) hbl]; exact hcb
      have HT := Lib.hid ht
      clear ht hcb
      by_cases hlong : 40 < (str k).size
      · go_wp2_with fail
        go_ret
        exact ⟨rfl, HT.out.below⟩
      · by_cases hroom : k < 8
        · go_wp2_with fail
          refine (s_put_room_f (str k) _ HT.out.o (by rw [strs_len, putS_len]; omega)).mono ?_
          rintro e w4 ⟨rfl, hb4, hu4⟩
          rw [show strs (putS str k) ++ [.string (str k)] = strs (putS str (k + 1)) from by rw [putS_room str k hroom, strs_app]; rfl] at hb4
          have HT4 := Lib.hid (HT.out.setO hb4 hu4)
          clear hb4 hu4 hcr
          have hcr : w4.cell? ⟨b, off + k, none⟩ = some (.string (str k)) := by obtain ⟨b2, off2, he, hcb⟩ := HC.out k hlt; cases he; rw [HT4.out.below.cell (p := ⟨b, off + k, none⟩) hbl]; exact hcb
          go_wp2_with fail
          refine (p_put_room_f _ _ _ HT4.out.p (by rw [prs_len, putP_len]; omega)).mono ?_
          rintro e w5 ⟨rfl, hb5, hu5⟩
          rw [show prs (putP str k) ++ [.agg #[.int .i64 (k : Int), .int .i64 ((str k).size : Int)]] = prs (putP str (k + 1)) from by rw [putP_room str k hroom, prs_app]; rfl] at hb5
          have HT5 := Lib.hid (HT4.out.setP hb5 hu5 (fun k hk => Or.inr hk))
          clear hb5 hu5 hcr
          go_wp2_with fail
          go_roundw
          case rel => exact ⟨k + 1, by omega, by go_num, HT5.out⟩
          case measure => simp [intOf]; omega
        · go_wp2_with fail
          refine (s_put_full_f (str k) _ HT.out.o (by rw [strs_len, putS_len]; omega)).mono ?_
          rintro e w4 ⟨rfl, rfl⟩
          go_wp2_with fail
          refine (p_put_full_f _ _ _ HT.out.p (by rw [prs_len, putP_len]; omega)).mono ?_
          rintro e w5 ⟨rfl, hu5⟩
          have HT5 := Lib.hid (HT.out.keep hu5)
          clear hu5 hcr
          go_wp2_with fail
          go_roundw
          case rel => exact ⟨k + 1, by omega, by go_num, by rw [putS_full str k (by omega), putP_full str k (by omega)]; exact HT5.out⟩
          case measure => simp [intOf]; omega
    · have hkl : k = len := by omega
      subst hkl
      have HT := Lib.hid ht
      clear ht
      go_wp2_with fail
      go_loopw [8] (fun i wr => ∃ (j : Nat) (S : List ByteArray), j ≤ n % 4 ∧ i = .int .i64 j ∧ S.length = min k 8 - j ∧ Two w wr B c0 c1 D d0 d1 M S (putP str k)) (fun i _ => n % 4 - (intOf i).toNat)
      case atStart => exact ⟨0, _, Nat.zero_le _, rfl, by rw [putS_len]; omega, HT.out⟩
      case round =>
        obtain ⟨j, S, hj, rfl, hSl, ht⟩ := hrel
        rename_i wx
        have HT := Lib.hid ht
        have HSl := Lib.hid hSl
        clear ht hSl
        by_cases hjn : j < n % 4
        · cases S with
          | nil =>
            go_wp2_with fail
            refine (s_take_c _ HT.out.o).mono ?_
            rintro e w4 ⟨rfl, rfl⟩
            go_wp2_with fail
            go_roundw
            case rel => exact ⟨j + 1, [], by omega, by go_num, by have := HSl.out; simp at this ⊢; omega, HT.out⟩
            case measure => simp [intOf]; omega
          | cons x S =>
            go_wp2_with fail
            refine (s_take_b x _ HT.out.o).mono ?_
            rintro e w4 ⟨rfl, hb4, hu4⟩
            have HT4 := Lib.hid (HT.out.setO hb4 hu4)
            clear hb4 hu4
            go_wp2_with fail
            go_roundw
            case rel => exact ⟨j + 1, S, by omega, by go_num, by have := HSl.out; simp at this ⊢; omega, HT4.out⟩
            case measure => simp [intOf]; omega
        · have hjn9 : j = n % 4 := by omega
          subst hjn9
          have hpl : (putP str k).length ≤ 8 := by rw [putP_len]; omega
          go_wp2_with fail
          refine (p_all _ HT.out.p hpl (by omega)).mono ?_
          rintro e w5 ⟨v, rfl, ho5, hb5, hu5⟩
          have HT5 := Lib.hid (HT.out.setP hb5 hu5 (fun k hk => hk))
          obtain ⟨pA, qA, hv, hcA⟩ := powns_form ho5
          rw [putP_len] at hv
          subst hv
          obtain ⟨base, hd0, hd1, HOA⟩ : ∃ base, d0 < base ∧ d1 < base ∧ Hid (w5.ownsRow base 39 2 (.slice pA (min k 8) qA) (putP str k).length (prf (putP str k))) := ⟨_, HT.out.p.a.lt, HT.out.p.b.lt, Lib.hid ho5⟩
          clear hb5 hu5 hcA ho5 hpl
          have hmin : ((min k 8 : Nat) : Int) = min (k : Int) 8 := by omega
          have hSl := HSl.out
          go_upto_region 16 with fail
          go_cut [79] (fun s79 wx => s79 = .bool false ∧ Two w wx B c0 c1 D d0 d1 M S (putP str k) ∧ wx.ownsRow base 39 2 (.slice pA (min k 8) qA) (putP str k).length (prf (putP str k)))
          case first =>
            go_wp2_with fail
            all_goals
              refine (s_len _ HT5.out.o (by simp) (by rw [strs_len]; omega)).mono ?_
              rintro e w6 ⟨rfl, hu6⟩
              rw [strs_len, List.length_nil, hSl]
              have HT6 := Lib.hid (HT5.out.keep hu6)
              have HO6 := Lib.hid (owns_upd2 HOA.out hu6 (fun _ _ h => h))
              clear hu6
              go_wp2_with fail
              all_goals
                go_meet
                exact ⟨congrArg Value.bool (bne_eq_false_iff_eq.2 (by omega)), HT6.out, HO6.out⟩
          case rest =>
            obtain ⟨rfl, ht6, ho6⟩ := hcut
            have HT6 := Lib.hid ht6
            have HO6 := Lib.hid ho6
            clear ht6 ho6 HOA HT5 HT
            go_wp2_with fail
            go_loopw [10] (fun i wr => ∃ j : Nat, j ≤ min k 8 ∧ i = .int .i64 j ∧ Two w wr B c0 c1 D d0 d1 M S ((putP str k).drop j) ∧ wr.ownsRow base 39 2 (.slice pA (min k 8) qA) (putP str k).length (prf (putP str k))) (fun i _ => min k 8 - (intOf i).toNat)
            case atStart => exact ⟨0, Nat.zero_le _, rfl, HT6.out, HO6.out⟩
            case round =>
              obtain ⟨j, hj, rfl, ht, ho⟩ := hrel
              have HT := Lib.hid ht
              have HO := Lib.hid ho
              clear ht ho HT6 HO6
              by_cases hjn : j < min k 8
              · obtain ⟨hjl, hat, hdr⟩ := putP_at str k j hjn
                have hbx := HT.out.p
                rw [hdr] at hbx
                have HBX := Lib.hid hbx
                clear hbx hdr
                go_wp2_with fail
                refine (p_take_b _ _ _ HBX.out).mono ?_
                rintro e w7 ⟨rfl, hb7, hu7⟩
                have HT7 := Lib.hid (HT.out.setP hb7 hu7 (fun k hk => Or.inr hk))
                have hbase := owns_base HO.out
                have HO7 := Lib.hid (owns_upd2 HO.out hu7 (fun g hg (e : g = d1) => by have := hbase g hg; omega))
                clear hb7 hu7 hbase HT HO HBX
                go_wp2_with fail
                have ua := upd_alloc (fun _ => False) w7 (Obj.cells #[Value.int .i64 (j : Int), Value.int .i64 ((str j).size : Int)] 39)
                obtain ⟨x0, x1, -, -⟩ := pair_cells w7 (.int .i64 (j : Int)) (.int .i64 ((str j).size : Int)) 39
                have ht8 := HT7.out.keep ua
                have ho8 := owns_upd2 HO7.out ua (fun _ _ h => h)
                obtain ⟨pB, qB, hv, hcA⟩ := powns_form ho8
                injection hv with e1 e2 e3
                subst e1
                clear e2 e3
                obtain ⟨g, rfl, y0, y1⟩ := hcA j hjl
                rw [hat] at y0 y1
                obtain ⟨b, off, rfl, hcb⟩ := HC.out j (by omega)
                have hcr := (ht8.below.cell (p := ⟨b, off + j, none⟩) (cell_lt hcb)).trans hcb
                have HT8 := Lib.hid ht8
                have HO8 := Lib.hid ho8
                clear ua ht8 ho8 hcA hcb HT7 HO7
                generalize World.alloc w7 _ = w8 at *
                have heq := fun w => eq39 (j : Int) ((str j).size : Int) (j : Int) ((str j).size : Int) w
                go_quiet (fail)
                go_wp2_with fail
                have uq := upd_drewN (fun _ => False) w8 nq
                go_roundw
                case rel => exact ⟨j + 1, by omega, by go_num, HT8.out.keep uq, owns_upd2 HO8.out uq (fun _ _ h => h)⟩
                case measure => simp [intOf]; omega
              · have hjm : j = min k 8 := by omega
                subst hjm
                go_wp2_with fail
                refine (p_len _ HT.out.p (by simp) (by rw [prs_len, List.length_drop, putP_len]; omega)).mono ?_
                rintro e w7 ⟨rfl, hu7⟩
                rw [prs_len, List.length_drop, putP_len, Nat.sub_self]
                have HT7 := HT.out.keep hu7
                go_wp2_with fail
                go_ret
                exact ⟨rfl, HT7.below⟩
end Go.Proofs.Ytohjikijgcpnnaa
