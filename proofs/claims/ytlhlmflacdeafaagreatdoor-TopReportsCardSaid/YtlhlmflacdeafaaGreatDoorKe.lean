/-
  Closed facts of the row of TopReports.
-/
import Derived.Test.YtlhlmflacdeafaaGreatDoorLaid
namespace Go.Proofs.YtlhlmflacdeafaaGreatDoor
open Go

theorem tr_k12 : (Rows.topReportsRow.recurses == Tryz.prog.recurses 4) = true := by kernel_rfl
end Go.Proofs.YtlhlmflacdeafaaGreatDoor
