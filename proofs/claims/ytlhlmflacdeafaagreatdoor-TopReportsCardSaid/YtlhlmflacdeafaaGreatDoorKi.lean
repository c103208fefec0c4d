/-
  Closed facts of the row of TopReports.
-/
import Derived.Test.YtlhlmflacdeafaaGreatDoorLaid
namespace Go.Proofs.YtlhlmflacdeafaaGreatDoor
open Go

theorem tr_k1 : Rows.topReportsRow.wf (OpenSpec.ofChange Rows.topReportsSpec) = true := by kernel_rfl
theorem tr_k4 : Tryz.f4.params.all (Tryz.prog.readableRec ·) = true := by kernel_rfl
theorem tr_k5 : namedTie Tryz.prog Rows.topReportsRow.named Rows.topReportsSpec.vars = true := by kernel_rfl
theorem tr_k7 : (Tryz.prog.stops == []) = true := by kernel_rfl
theorem tr_k9 : (Tryz.prog.stopKnobs == []) = true := by kernel_rfl
theorem tr_k22 : (Rows.topReportsRow.plainKeys == Tryz.prog.plainKeys) = true := by kernel_rfl
theorem tr_k24b : (Rows.topReportsRow.lifted == Tryz.prog.liftsFinal) = true := by kernel_rfl
theorem tr_k24c : (Tryz.prog.make == some Rows.topReportsRow.make) = true := by kernel_rfl
end Go.Proofs.YtlhlmflacdeafaaGreatDoor
