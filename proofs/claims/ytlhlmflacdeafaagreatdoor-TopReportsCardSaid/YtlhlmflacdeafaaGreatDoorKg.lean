/-
  Closed facts of the row of TopReports.
-/
import Derived.Test.YtlhlmflacdeafaaGreatDoorLaid
namespace Go.Proofs.YtlhlmflacdeafaaGreatDoor
open Go

theorem tr_k23b : Tryz.prog.stopsHeard = true := by kernel_rfl
end Go.Proofs.YtlhlmflacdeafaaGreatDoor
