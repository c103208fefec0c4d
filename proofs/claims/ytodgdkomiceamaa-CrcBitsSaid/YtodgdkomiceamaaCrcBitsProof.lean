/-
  For every string b and all uint16 at and mask, the law CrcBits of the program returns true and leaves its arguments as they were. Conditions: none.
-/
import Derived.Test.YtodgdkomiceamaaRows
import Derived.Test.YtodgdkomiceamaaBits
import Derived.Test.YtodgdkomiceamaaLaw
import Derived.WalkKit
import Derived.ProofKit
import Derived.OpenShut
import Derived.ShutString
namespace Go.Proofs.Ytodgdkomiceamaa.crcBits
open Go.ChangeShapes Go.WideShapes Go.ChangeAt Go.RowKit
open Go.ChangeMaps (open_string shut_string)
set_option linter.unusedVariables false      -- a walk need not use every 'w<i>' (that an integer argument fits its kind)

theorem own : ownKnob Try.prog.godebug = none := by kernel_rfl

theorem walk (a0 : ByteArray) (a1 : Int) (a2 : Int) (w0 : a0.size ≤ maxLen) (w1 : (Lit.int .u16 a1).wf = true) (w2 : (Lit.int .u16 a2).wf = true) (w : World) :
    Calls Try.prog 3 #[.string a0, .int .u16 a1, .int .u16 a2] w fun e w' => e = .returned (.bool true) ∧ Below w.heap.size w w' := by
  by_cases h : 500 < a0.size ∨ a0.size < 2 ∨ a2 = 0
  · exact bits_none a0 a1 a2 w h
  · have b1 := bounds_u16 w1
    have b2 := bounds_u16 w2
    obtain ⟨n, rfl⟩ := Int.eq_ofNat_of_zero_le b1.1
    obtain ⟨m, rfl⟩ := Int.eq_ofNat_of_zero_le b2.1
    have hK : n % (a0.size - 1) + 1 < a0.data.toList.length := by
      have := Nat.mod_lt n (show a0.size - 1 > 0 by omega)
      rw [Array.length_toList]
      show _ < a0.size
      omega
    have hm : ¬ (UInt8.ofNat (m % 256) = 0 ∧ UInt8.ofNat (m / 256) = 0) := by
      rintro ⟨e1, e2⟩
      have e1 := congrArg UInt8.toNat e1
      have e2 := congrArg UInt8.toNat e2
      rw [UInt8.toNat_ofNat_of_lt' (show m % 256 < 256 by omega)] at e1
      rw [UInt8.toNat_ofNat_of_lt' (show m / 256 < 256 by omega)] at e2
      simp at e1 e2
      omega
    have d1 := turned_ne (d := 33800) (j := 15) (by decide) (by decide) (by decide) a0.data.toList (n % (a0.size - 1)) 65535 _ _ (by decide) hK hm
    have d2 := turned_ne (d := 2197175160) (j := 31) (by decide) (by decide) (by decide) a0.data.toList (n % (a0.size - 1)) 4294967295 _ _ (by decide) hK hm
    have l1 := d16_lt a0.data.toList
    have l2 := d16_lt (turned a0.data.toList (n % (a0.size - 1)) m)
    have l3 := d32_lt a0.data.toList
    have l4 := d32_lt (turned a0.data.toList (n % (a0.size - 1)) m)
    refine bits_some a0 n m _ w (by omega) (by omega) (by omega) (by omega) (by omega) rfl ?_ ?_
    · rw [bne_iff_ne]
      intro e
      apply d1
      show dvd 33800 65535 (turned a0.data.toList (n % (a0.size - 1)) m) = _
      unfold x25 at e
      omega
    · rw [bne_iff_ne]
      intro e
      apply d2
      show dvd 2197175160 4294967295 (turned a0.data.toList (n % (a0.size - 1)) m) = _
      unfold cas at e
      omega

/-! ### THE ROW's STEP: WRITTEN OUT: LEAVE IT -/
set_option maxRecDepth 100000 in
theorem lifted (os : Os) (started : os.Started) (H : Type) (enc : TypeId × Value → H) :
    ReturnsInHanded {} Try.checked os 3 .any (Rows.crcBitsSpec.pre6 enc Try.prog Try.f3 Rows.crcBitsRow.domain false) (Rows.crcBitsSpec.post enc Try.prog Try.f3 false true false false) := by
  refine returnsInHanded_of_change (C := Try.checked) own started (by kernel_rfl) Try.func3
    (ChangeSpec.witness6 (enc := enc) (C := Try.checked) false ⟨#[], #[.string ByteArray.empty, .int .u16 0, .int .u16 0], []⟩ 8 (by kernel_rfl) (by kernel_rfl) (by kernel_rfl) (by kernel_rfl)) ?_
  intro W base args ds gs before hval0 hW hcnd _
  have hval : ∀ (j : Nat) t v, Try.f3.params[j]? = some t → args[j]? = some v → Value.okWide Try.prog W .any base t v := hval0
  have hW' := hW
  obtain ⟨p, q, hA0, hV, rfl, hfz, hnd⟩ := hW
  have hA : DataW.TrodAll enc Try.prog W 0 (fun _ => true) true Try.f3.params.toList args.toList ds p := hA0
  rw [Try.params3] at hA hval
  obtain ⟨v0, vs0, d0, ds0, p0, q0, hargs, rfl, rfl, h0, r0⟩ := trodAll_cons hA
  obtain ⟨v1, vs1, d1, ds1, p1, q1, rfl, rfl, rfl, h1, r1⟩ := trodAll_cons r0
  obtain ⟨v2, vs2, d2, ds2, p2, q2, rfl, rfl, rfl, h2, r2⟩ := trodAll_cons r1
  obtain ⟨rfl, rfl, rfl⟩ := trodAll_nil r2
  obtain rfl : args = #[v0, v1, v2] := by cases args; simp_all
  obtain ⟨rfl, rfl⟩ := trodVars_none hV
  obtain ⟨a0, rfl, rfl, rfl, w0⟩ := open_string Try.underlying9 (hval 0 9 v0 rfl rfl) h0
  obtain ⟨a1, rfl, rfl, rfl, w1⟩ := open_int Try.underlying22 (hval 1 22 v1 rfl rfl) h1
  obtain ⟨a2, rfl, rfl, rfl, w2⟩ := open_int Try.underlying22 (hval 2 22 v2 rfl rfl) h2
  clear hA0 hval0
  simp only [List.append_nil] at hW'
  refine (walk a0 a1 a2 w0 w1 w2 W).mono fun e W' ⟨he, hg⟩ => ?_
  subst he
  exact ⟨_, rfl, _, _, _, [], _, [], hW', (trodAll_cons_mk (shut_bool Try.underlying4 _) trodAll_mk0), (trodAll_cons_mk (shut_string Try.underlying9 w0) (trodAll_cons_mk (shut_int Try.underlying22 w1) (trodAll_cons_mk (shut_int Try.underlying22 w2) trodAll_mk0))), rfl, hg.frame _, fun h => by cases h⟩

theorem over : Rows.crcBitsRow.holds Try.pinned (OpenSpec.ofChange Rows.crcBitsSpec) :=
  OpenClaim.holds_of_wide 3 Try.f3 rfl rfl rfl rfl rfl rfl rfl ⟨rfl, rfl, rfl, rfl, rfl⟩ rfl rfl rfl rfl rfl (by kernel_rfl) Try.func3 (by kernel_rfl)
    (of_decide_eq_true (by kernel_rfl)) (by unfold Func.isWrapper; first | (rw [if_pos (by decide +kernel)]; kernel_rfl) | (rw [if_neg (by decide +kernel)]; exact ⟨rfl, rfl⟩))
    (fun os started H enc _ => lifted os started H enc)

/-- ████ THE STATEMENT ████ -/
theorem proved : Rows.CrcBitsSaid :=
  over
#print axioms proved
end Go.Proofs.Ytodgdkomiceamaa.crcBits
