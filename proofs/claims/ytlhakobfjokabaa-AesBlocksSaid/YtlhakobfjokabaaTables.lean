/-
  The contract of tables.
-/
import Derived.Test.YtlhakobfjokabaaWrite
import Derived.Laws.CopyRow
namespace Go.Proofs.Ytlhakobfjokabaa
open Go.RowKit

theorem zero47 (w : World) : (zeroValue 47).run Try.prog w = .ok (.agg (arr 256 fun _ => 0)) w := by kernel_rfl
/-- The powers of three, and of its inverse. -/
def pq : Nat → Nat × Nat
  | 0 => (1, 1)
  | k + 1 => (mul (pq k).1 3, mul (pq k).2 246)
theorem pq_lt : ∀ k, (pq k).1 < 256 ∧ (pq k).2 < 256
  | 0 => by decide
  | k + 1 => ⟨mul_lt (pq k).1 3 (pq_lt k).1, mul_lt (pq k).2 246 (pq_lt k).2⟩
/-- The table after so many rounds. -/
def subT : Nat → Nat → Nat
  | 0 => put (fun _ => 0) 0 (aff 0 4)
  | k + 1 => put (subT k) (pq (k + 1)).1 (aff (pq (k + 1)).2 4)
/-- The way back, after so many rounds. -/
def backT (S : Nat → Nat) : Nat → Nat → Nat
  | 0 => fun _ => 0
  | k + 1 => put (backT S k) (S k) k

theorem subT_lt : ∀ k j, subT k j < 256
  | 0, j => by
    show put (fun _ => 0) 0 (aff 0 4) j < 256
    unfold put
    split
    · exact aff_lt 0 (by decide) 4
    · show 0 < 256
      decide
  | k + 1, j => by
    show put (subT k) (pq (k + 1)).1 (aff (pq (k + 1)).2 4) j < 256
    unfold put
    split
    · exact aff_lt _ (pq_lt (k + 1)).2 4
    · exact subT_lt k j
theorem i47 : (Try.prog.info? 47).map (·.size) = some 256 := by kernel_rfl
theorem i47l (f : Nat → Nat) : (Try.prog.info? 47).map (·.size) = some (arr 256 f).toList.length := by
  rw [show (arr 256 f).toList.length = 256 by simp [arr]]
  exact i47
/-- What tables has in memory. -/
structure TabR (w wr : World) (g h : Nat → Nat) : Prop where
  s : Blk wr w.heap.size 47 256 g
  b : Blk wr (w.heap.size + 1) 47 256 h
  u : Below w.heap.size w wr
theorem TabR.start (w : World) : TabR w ((w.alloc (.cells (arr 256 fun _ => 0) 47)).alloc (.cells (arr 256 fun _ => 0) 47)) (fun _ => 0) fun _ => 0 := by
  have z1 : (w.alloc (.cells (arr 256 fun _ => 0) 47)).heap.size = w.heap.size + 1 := World.size_alloc _ _
  have h1 := Blk.new (w.alloc (.cells (arr 256 fun _ => 0) 47)) 47 256 fun _ => 0
  rw [z1] at h1
  exact ⟨(Blk.new w 47 256 fun _ => 0).alloc _, h1, ((Below.refl _ _).alloc (Nat.le_refl _) _).alloc (by rw [z1]; omega) _⟩
theorem TabR.putS {w wr : World} {g g' h : Nat → Nat} (r : TabR w wr g h) {o x : Nat} (hg : put g o x = g') : TabR w (wr.setCell ⟨w.heap.size, o, none⟩ (.int .u8 x)) g' h := by
  subst hg
  exact ⟨r.s.set o x, r.b.other (by simp) _, r.u.setCell (p := ⟨w.heap.size, o, none⟩) (Nat.le_refl _) _⟩
theorem TabR.putB {w wr : World} {g h h' : Nat → Nat} (r : TabR w wr g h) {o x : Nat} (hg : put h o x = h') : TabR w (wr.setCell ⟨w.heap.size + 1, o, none⟩ (.int .u8 x)) g h' := by
  subst hg
  exact ⟨r.s.other (by simp) _, r.b.set o x, r.u.setCell (p := ⟨w.heap.size + 1, o, none⟩) (by simp) _⟩
theorem TabR.cells {w wr : World} {g h : Nat → Nat} (r : TabR w wr g h) : (∃ v, wr.cell? ⟨w.heap.size, 0, none⟩ = some v) := ⟨_, r.s.cell (by omega)⟩
theorem results_two {fn : Func} {p q : Tmp} {ty : TypeId} (h : fn.results = #[.cell p ty, .cell q ty]) (tmps : Array Value) (w : World) (b c : Nat) (cs ds : List Value) (d : TypeDesc)
    (hp : tmps.getD p undef = .pointer (some ⟨b, 0, none⟩)) (hq : tmps.getD q undef = .pointer (some ⟨c, 0, none⟩)) (hb : w.rangeAt b 0 cs) (hc : w.rangeAt c 0 ds)
    (hu : Try.prog.underlying ty = some d) (hd : d.isRow = true) (hi : (Try.prog.info? ty).map (·.size) = some cs.length) (hj : (Try.prog.info? ty).map (·.size) = some ds.length) :
    (results fn tmps).run Try.prog w = .ok (.tuple #[.agg cs.toArray, .agg ds.toArray]) w := by
  have hp' : tmps[p]?.getD undef = .pointer (some ⟨b, 0, none⟩) := by simpa using hp
  have hq' : tmps[q]?.getD undef = .pointer (some ⟨c, 0, none⟩) := by simpa using hq
  simp [results, h, hp', hq', asAddr, run_loadVar_mid w b 0 ty cs d hb hu hd hi, run_loadVar_mid w c 0 ty ds d hc hu hd hj]

theorem still_load_row {ops : Array Oper} {o : Oper} {a : Act} {w : World} {K : Act → Prop} (hgd : o.guard = none) (ty : TypeId) (x : Operand) (ho : o.op = .load ty x)
    (g : Nat) (hx : a.eval x = .pointer (some ⟨g, 0, none⟩)) (t : TypeId) (cs : Array Value) (n : Nat) (e : TypeId) (hg : w.heap[g]? = some (.cells cs t (0, 0)))
    (hu : Try.prog.underlying ty = some (.array n e)) (hi : (Try.prog.info? ty).map (·.size) = some cs.size)
    (h : K (a.put o.dst (.agg cs))) : if Region.wanted o (yielded ops a.tmps) = true then o.still Try.prog a { w with drawn := w.drawn + 1 } K else K (a.put o.dst undef) := by
  have hw : Region.wanted o (yielded ops a.tmps) = true := by simp [Region.wanted, hgd]
  have hr := run_loadVar_row (P := Try.prog) { w with drawn := w.drawn + 1 } g t ty cs (0, 0) _ hg hu rfl hi
  rw [if_pos hw]
  unfold Oper.still execOp
  simp only [ho, hx, Instr.loadAt, Instr.sureAddr, Sem.run_bind, Sem.run_pure, Result.andThen_ok, hr, Oper.stillUpon_value]
  exact h
theorem still_store_row {ops : Array Oper} {o : Oper} {a : Act} {w : World} {K : Act → Prop} (hgd : o.guard = none) (ty : TypeId) (x y : Operand) (ho : o.op = .store ty x y)
    (g : Nat) (t : TypeId) (cs : Array Value) (hx : a.eval x = .pointer (some ⟨g, 0, none⟩)) (hy : a.eval y = .agg cs) (hg : w.heap[g]? = some (.cells cs t (0, 0)))
    (hi : (Try.prog.info? ty).map (·.size) = some cs.size) (h1 : cs.all (·.oneCell') = true)
    (h : K (a.put o.dst undef)) : if Region.wanted o (yielded ops a.tmps) = true then o.still Try.prog a { w with drawn := w.drawn + 1 } K else K (a.put o.dst undef) := by
  have hw : Region.wanted o (yielded ops a.tmps) = true := by simp [Region.wanted, hgd]
  have hr := run_storeVar_row (P := Try.prog) { w with drawn := w.drawn + 1 } g t ty cs cs hg hi rfl h1
  rw [setRow_self { w with drawn := w.drawn + 1 } g cs t (0, 0) hg] at hr
  rw [if_pos hw]
  unfold Oper.still execOp
  simp only [ho, hx, hy, Instr.storeAt, Instr.sureAddr, Sem.run_bind, Sem.run_pure, Result.andThen_ok, hr]
  exact ⟨rfl, h⟩

set_option maxHeartbeats 1000000 in
set_option maxRecDepth 20000 in
theorem tables_any (w : World) :
    Calls Try.prog 24 #[] w fun e w' => e = .returned (.tuple #[.agg (arr 256 (subT 255)), .agg (arr 256 (backT (subT 255) 256))]) ∧ Below w.heap.size w w' := by
  have hz47 := zero47
  have ha0 : ∀ w : World, Calls Try.prog 21 #[.int .u8 0] w fun e w' => e = .returned (.int .u8 (aff 0 4 : Nat)) ∧ w = w' := fun w => affine_any 0 w (by decide)
  have HA0 := Lib.hid ha0; clear ha0
  have HS := Lib.hid (TabR.start w)
  go_enter Try.func24, Try.ntmps24
  go_upto_region 1 with (fail)
  clear hz47
  generalize World.alloc (World.alloc w _) _ = w1 at *
  have hc := HS.out.s.cell (j := 0) (by omega)
  have hf := HS.out.s.free 0
  go_upto_region 3 with (go_at_call 21; (with_reducible refine (HA0.out _).mono ?_); rintro e w2 ⟨rfl, rfl⟩)
  have HT := Lib.hid (HS.out.putS (o := 0) (x := aff 0 4) (g' := subT 0) rfl)
  generalize World.setCell w1 _ _ = w2 at *
  clear hc hf HS
  go_wp2_with fail
  go_loopw [2, 3, 8] (fun p q i wr => ∃ k : Nat, k ≤ 255 ∧ i = .int .i64 k ∧ p = .int .u8 (pq k).1 ∧ q = .int .u8 (pq k).2 ∧ TabR w wr (subT k) fun _ => 0) (fun _ _ i _ => 255 - (intOf i).toNat)
  case atStart => exact ⟨0, by omega, rfl, rfl, rfl, HT.out⟩
  case round =>
    obtain ⟨k, hk, rfl, rfl, rfl, hr⟩ := hrel
    have HR := Lib.hid hr
    clear hr HT
    by_cases hk4 : k < 255
    · have hk0 : (k : Int) < 255 := by omega
      have hp := (pq_lt (k + 1)).1
      have hq := (pq_lt (k + 1)).2
      have HP := Lib.hid (show (pq (k + 1)).1 = mul (pq k).1 3 from rfl)
      have HQ := Lib.hid (show (pq (k + 1)).2 = mul (pq k).2 246 from rfl)
      have HN := Lib.hid (show subT (k + 1) = put (subT k) (pq (k + 1)).1 (aff (pq (k + 1)).2 4) from rfl)
      have HLT := Lib.hid (pq_lt k)
      go_wp2_with fail
      refine (Times_any (pq k).1 3 _ HLT.out.1 (by decide)).mono ?_
      rintro e w3 ⟨rfl, rfl⟩
      rw [← HP.out]
      go_wp2_with fail
      refine (Times_any (pq k).2 246 _ HLT.out.2 (by decide)).mono ?_
      rintro e w3 ⟨rfl, rfl⟩
      rw [← HQ.out]
      clear HP HQ
      generalize hP : (pq (k + 1)).1 = P at *
      generalize hQ : (pq (k + 1)).2 = Q at *
      have HP := Lib.hid hP; clear hP
      have HQ := Lib.hid hQ; clear hQ
      go_wp2_with fail
      refine (affine_any Q _ hq).mono ?_
      rintro e w3 ⟨rfl, rfl⟩
      have hp1 : (P : Int) < 256 := by omega
      have hc := HR.out.s.cell (j := P) hp
      have hf := HR.out.s.free P
      generalize subT k P = old at hc
      go_wp2_with fail
      go_roundw
      case rel => exact ⟨k + 1, by omega, by go_num, by rw [HP.out], by rw [HQ.out], HR.out.putS HN.out.symm⟩
      case measure => simp [intOf]; omega
    · have hk9 : k = 255 := by omega
      subst hk9
      have hS := subT_lt 255
      have HSL := Lib.hid hS; clear hS
      generalize hSE : subT 255 = S at *
      have HSE := Lib.hid hSE; clear hSE
      go_upto_region 8 with (fail)
      go_wp2_with (refine wpList_load_row rfl 47 (.tmp 0) rfl w.heap.size rfl 47 (arr 256 S) (0, 0) _ HR.out.s Try.underlying47 rfl (size16 47 i47 _) ?_)
      go_loopw [20] (fun i wr => ∃ k : Nat, k ≤ 256 ∧ i = .int .i64 k ∧ TabR w wr S (backT S k)) (fun i _ => 256 - (intOf i).toNat)
      case atStart => exact ⟨0, by omega, rfl, HR.out⟩
      case round =>
        obtain ⟨k, hk, rfl, hr⟩ := hrel
        have HR := Lib.hid hr
        clear hr
        by_cases hk4 : k < 256
        · have hk0 : (k : Int) < 256 := by omega
          have hix := run_index_arr 47 256 Try.underlying47 S k hk4
          have hsl := HSL.out k
          have hsl1 : (S k : Int) < 256 := by omega
          have hc := HR.out.b.cell (j := S k) hsl
          have hf := HR.out.b.free (S k)
          have hwk : IntKind.u8.wrap (k : Int) = (k : Int) := by rw [IntKind.wrap_u8]; omega
          generalize backT S k (S k) = old at hc
          go_wp2_with fail
          go_roundw
          case rel => exact ⟨k + 1, by omega, by go_num, HR.out.putB rfl⟩
          case measure => simp [intOf]; omega
        · have hk9 : k = 256 := by omega
          subst hk9
          generalize hBB : backT S 256 = BB at *
          have HBB := Lib.hid hBB; clear hBB
          go_upto_region 13 with (fail)
          have hs1 := HR.out.s
          have hs2 := HR.out.b
          have q1 : wr.drew.setRow w.heap.size (arr 256 S) = wr.drew := setRow_self _ _ _ _ _ hs1.drew
          have q2 : wr.drew.setRow (w.heap.size + 1) (arr 256 BB) = wr.drew := setRow_self _ _ _ _ _ hs2.drew
          refine wp_region_still_lit (by kernel_rfl) (by kernel_rfl) ?_
          refine wpStill_step (fun K hK => ?_)
          refine still_load_row rfl 47 (.tmp 0) rfl w.heap.size rfl 47 (arr 256 S) _ _ hs1 Try.underlying47 (size16 47 i47 _) (hK _ ?_)
          clear hK K
          refine wpStill_step (fun K hK => ?_)
          refine still_load_row rfl 47 (.tmp 1) rfl (w.heap.size + 1) rfl 47 (arr 256 BB) _ _ hs2 Try.underlying47 (size16 47 i47 _) (hK _ ?_)
          clear hK K
          refine wpStill_step (fun K hK => ?_)
          refine still_store_row rfl 47 (.tmp 0) (.tmp 29) rfl w.heap.size 47 (arr 256 S) rfl rfl hs1 (size16 47 i47 _) (arr_one _ _) (hK _ ?_)
          clear hK K
          refine wpStill_step (fun K hK => ?_)
          refine still_store_row rfl 47 (.tmp 1) (.tmp 30) rfl (w.heap.size + 1) 47 (arr 256 BB) rfl rfl hs2 (size16 47 i47 _) (arr_one _ _) (hK _ ?_)
          clear hK K
          refine wpStill_nil ?_
          have hrS := hs1.all
          have hrB := hs2.all
          have HU := Lib.hid HR.out.u
          have HRS := Lib.hid (And.intro hrS hrB)
          clear q1 q2 hs1 hs2 HR hrS hrB
          go_wp2_with fail
          refine bodyPost_ret (results_two rfl _ _ w.heap.size (w.heap.size + 1) (arr 256 S).toList (arr 256 BB).toList _ rfl rfl HRS.out.1 HRS.out.2 Try.underlying47 rfl (i47l _) (i47l _)) rfl ⟨?_, below_drew HU.out⟩
          rw [HSE.out, HBB.out, Array.toArray_toList, Array.toArray_toList]
end Go.Proofs.Ytlhakobfjokabaa
