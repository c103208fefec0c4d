/-
  No function of the program starts a goroutine.
-/
import Derived.Test.YtlhlmflacdeafaaGreatDoorRows
import Derived.SevenTiedAt
namespace Go.Proofs.YtlhlmflacdeafaaGreatDoor
open Go

theorem tr_go : Tryz.prog.funcs.any Func.goes = false := by kernel_rfl
theorem goes_none {P : Program} (h : P.funcs.any Func.goes = false) (f : FuncId) : P.goes f = false := by
  unfold Program.goes
  rw [h, Bool.and_false, Bool.or_false, List.any_eq_false]
  intro g _
  cases hg : P.funcs[g]? with
  | none => simp
  | some fn =>
    have h2 : fn ∈ P.funcs := Array.mem_of_getElem? hg
    rw [Array.any_eq_false'] at h
    simpa using h fn h2
theorem goesAt_none {P : Program} (h : P.funcs.any Func.goes = false) (func : String) : P.goesAt .entering func = false := by
  unfold Program.goesAt Program.goesFrom
  cases P.funcNamed func with
  | none => rfl
  | some f => simp [goes_none h f]
theorem tr_looks : true = Tryz.prog.looks [] := by kernel_rfl
theorem tr_main : Tryz.prog.mainIs = some (true, "40837c3c5d139dfd2e059d62995180bc7ea382938b9f83e697e818700cbc3862".toList) := by kernel_rfl
theorem tr_wf : OpenClaim.wfByText (OpenSpec.ofChange Rows.topReportsSpec) Rows.topReportsRow = true := by kernel_rfl
theorem tr_s5 : Tryz.prog.wantsStandIn 5 = false := by kernel_rfl
theorem tr_s9 : Tryz.prog.wantsStandIn 9 = false := by kernel_rfl
theorem tr_s49 : Tryz.prog.wantsStandIn 49 = false := by kernel_rfl
end Go.Proofs.YtlhlmflacdeafaaGreatDoor
