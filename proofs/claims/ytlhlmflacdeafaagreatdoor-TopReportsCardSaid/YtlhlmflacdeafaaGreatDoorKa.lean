/-
  Closed facts of the row of TopReports.
-/
import Derived.Test.YtlhlmflacdeafaaGreatDoorLaid
namespace Go.Proofs.YtlhlmflacdeafaaGreatDoor
open Go

theorem tr_k2 : laidOutB Tryz.prog = true := by kernel_rfl
end Go.Proofs.YtlhlmflacdeafaaGreatDoor
