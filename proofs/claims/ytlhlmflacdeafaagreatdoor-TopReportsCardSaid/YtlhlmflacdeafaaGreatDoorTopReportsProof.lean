/-
  For every input TopReports returns true, and its arguments read behind the call as they read before: the card.
-/
import Derived.Test.YtlhlmflacdeafaaGreatDoorT32
import Derived.Test.YtlhlmflacdeafaaGreatDoorKa
import Derived.Test.YtlhlmflacdeafaaGreatDoorKb
import Derived.Test.YtlhlmflacdeafaaGreatDoorKc
import Derived.Test.YtlhlmflacdeafaaGreatDoorKd
import Derived.Test.YtlhlmflacdeafaaGreatDoorKe
import Derived.Test.YtlhlmflacdeafaaGreatDoorKf
import Derived.Test.YtlhlmflacdeafaaGreatDoorKg
import Derived.Test.YtlhlmflacdeafaaGreatDoorKh
import Derived.Test.YtlhlmflacdeafaaGreatDoorKi
import Derived.Test.YtlhlmflacdeafaaGreatDoorKj
import Derived.Test.YtlhlmflacdeafaaGreatDoorTie
import Derived.Test.YtlhlmflacdeafaaGreatDoorCards
import Derived.SevenTiedAt
namespace Go.Proofs.YtlhlmflacdeafaaGreatDoor.topReports
set_option linter.unusedVariables false
set_option linter.unusedSimpArgs false
open Go.ChangeShapes Go.WideShapes Go.ChangeAt Go.RowKit
open Go.ChangeMaps (open_string shut_string)

theorem joined : joinedFacts Tryz.prog 4 Tryz.f4 Rows.topReportsSpec Rows.topReportsRow = true := by
  unfold joinedFacts
  rw [tr_k1, tr_k2, tr_k3, tr_k4, tr_k5, tr_k7, tr_k9, tr_k10, tr_k11, tr_k12, tr_k13, tr_k22, tr_k23b, tr_k24, tr_k24b, tr_k24c]
  kernel_rfl
theorem walk (a0 : Int) (a1 : ByteArray) (a2 : Int) (w0 : (Lit.int .u8 a0).wf = true) (w1 : a1.size ≤ maxLen) (w2 : (Lit.int .u16 a2).wf = true) (w : World) :
    Calls Tryz.prog 4 #[.int .u8 a0, .string a1, .int .u16 a2] w fun e w' => e = .returned (.bool true) ∧ Below w.heap.size w w' := by
  have h0 : 0 ≤ a0 ∧ a0 < 256 := by
    have h := w0
    simp only [Lit.wf, Bool.and_eq_true, decide_eq_true_eq] at h
    rw [show IntKind.u8.min = 0 from rfl, show IntKind.u8.max = 255 from rfl] at h
    exact ⟨h.1, by omega⟩
  have h2 : 0 ≤ a2 ∧ a2 < 65536 := by
    have h := w2
    simp only [Lit.wf, Bool.and_eq_true, decide_eq_true_eq] at h
    rw [show IntKind.u16.min = 0 from rfl, show IntKind.u16.max = 65535 from rfl] at h
    exact ⟨h.1, by omega⟩
  obtain ⟨n, rfl⟩ := Int.eq_ofNat_of_zero_le h0.1
  obtain ⟨l, rfl⟩ := Int.eq_ofNat_of_zero_le h2.1
  rw [← st_self a1]
  by_cases hs : a1.data.toList.length ≤ 300
  · exact tr_run n l a1.data.toList w (by omega) (by omega) hs
  · exact tr_long n l a1.data.toList w (by omega)
set_option maxRecDepth 100000 in
theorem lifted (os : Os) (started : os.Started) (H : Type) (enc : TypeId × Value → H) :
    ReturnsInHanded {} Tryz.checked os 4 .any (fun w args => (Rows.topReportsSpec.pre enc Tryz.prog Tryz.f4 [] false w args ∧ laidMet Tryz.prog [("dromond/asb.errForm", Rows.laid_dromond_asb_errForm)] w) ∧ sizedMet enc Tryz.prog Tryz.f4 (OpenSpec.ofChange Rows.topReportsSpec) false w args) (Rows.topReportsSpec.post enc Tryz.prog Tryz.f4 false true false false) := by
  refine returnsInHanded_of_change_and (C := Tryz.checked) (X := fun w _ => laidMet Tryz.prog [("dromond/asb.errForm", Rows.laid_dromond_asb_errForm)] w) (fun _ _ _ hh h => h.of_heap hh) ownZ started (by kernel_rfl) Tryz.func4
    (ChangeSpec.witness_at (enc := enc) (C := Tryz.checked) (os := os) (X := fun w _ => laidMet Tryz.prog [("dromond/asb.errForm", Rows.laid_dromond_asb_errForm)] w) false (laidWorld os) #[.int .u8 0, .string ByteArray.empty, .int .u16 0] 8 rfl (by kernel_rfl) (by kernel_rfl) (by kernel_rfl) (by kernel_rfl) (by kernel_rfl) (laidWorld_met os _)) ?_
  intro W base args ds gs before hval0 hW _ _ hL _
  have hval : ∀ (j : Nat) t v, Tryz.f4.params[j]? = some t → args[j]? = some v → Value.okWide Tryz.prog W .any base t v := hval0
  have hW' := hW
  obtain ⟨p, q, hA0, hV, rfl, hfz, hnd⟩ := hW
  have hA : DataW.TrodAll enc Tryz.prog W 0 (fun _ => true) true Tryz.f4.params.toList args.toList ds p := hA0
  rw [Tryz.params4] at hA hval
  obtain ⟨v0, vs0, d0, ds0, p0, q0, hargs, rfl, rfl, h0, r0⟩ := trodAll_cons hA
  obtain ⟨v1, vs1, d1, ds1, p1, q1, rfl, rfl, rfl, h1, r1⟩ := trodAll_cons r0
  obtain ⟨v2, vs2, d2, ds2, p2, q2, rfl, rfl, rfl, h2, r2⟩ := trodAll_cons r1
  obtain ⟨rfl, rfl, rfl⟩ := trodAll_nil r2
  obtain rfl : args = #[v0, v1, v2] := by cases args; simp_all
  obtain ⟨rfl, rfl⟩ := trodVars_none hV
  obtain ⟨a0, rfl, rfl, rfl, w0⟩ := open_int Tryz.underlying5 (hval 0 5 v0 rfl rfl) h0
  obtain ⟨a1, rfl, rfl, rfl, w1⟩ := open_string Tryz.underlying9 (hval 1 9 v1 rfl rfl) h1
  obtain ⟨a2, rfl, rfl, rfl, w2⟩ := open_int Tryz.underlying49 (hval 2 49 v2 rfl rfl) h2
  clear hA0 hval0
  simp only [List.append_nil] at hW'
  refine (walk a0 a1 a2 w0 w1 w2 W).mono fun e W' ⟨he, hg⟩ => ?_
  subst he
  exact ⟨_, rfl, _, _, _, [], _, [], hW', (trodAll_cons_mk (shut_bool Tryz.underlying4 _) trodAll_mk0), (trodAll_cons_mk (shut_int Tryz.underlying5 w0) (trodAll_cons_mk (shut_string Tryz.underlying9 w1) (trodAll_cons_mk (shut_int Tryz.underlying49 w2) trodAll_mk0))), rfl, hg.frame _, fun h => by cases h⟩
theorem over : Rows.topReportsRow.holds Tryz.pinned (OpenSpec.ofChange Rows.topReportsSpec) :=
  OpenClaim.holds_of_wide 4 Tryz.f4 rfl rfl rfl rfl rfl rfl rfl ⟨rfl, rfl, rfl, rfl, rfl⟩ rfl rfl rfl rfl rfl (by kernel_rfl) Tryz.func4 joined
    (of_decide_eq_true (by kernel_rfl)) (by unfold Func.isWrapper; first | (rw [if_pos (by decide +kernel)]; kernel_rfl) | (rw [if_neg (by decide +kernel)]; exact ⟨rfl, rfl⟩))
    (fun os started H enc _ => lifted os started H enc)
theorem proved : Rows.TopReportsCardSaid :=
  Claim7.holds_tied_plain_at .later [] [.sentinel] true (true, "40837c3c5d139dfd2e059d62995180bc7ea382938b9f83e697e818700cbc3862") true
    over (fun _ h => by cases h) tr_wf (fun _ h => by cases h) topReports_row_tie rfl ⟨rfl, rfl⟩ tr_main rfl
    (fun f fn hf hfn => by
      obtain rfl : f = 4 := Option.some.inj ((show Tryz.prog.funcNamed "dromond/dromondtop.TopReports" = some 4 by kernel_rfl).symm.trans hf) |>.symm
      obtain rfl : fn = Tryz.f4 := (Option.some.inj (Tryz.func4.symm.trans hfn)).symm
      exact ⟨tr_looks, fun j t ht => by
        rw [Tryz.params4] at ht
        have h3 : t = 5 ∨ t = 9 ∨ t = 49 := by
          rcases j with _ | _ | _ | j
          · simp at ht; exact .inl ht.symm
          · simp at ht; exact .inr (.inl ht.symm)
          · simp at ht; exact .inr (.inr ht.symm)
          · simp at ht
        rcases h3 with rfl | rfl | rfl
        · exact tr_s5
        · exact tr_s9
        · exact tr_s49⟩)
    (goesAt_none tr_go _).symm
end Go.Proofs.YtlhlmflacdeafaaGreatDoor.topReports
