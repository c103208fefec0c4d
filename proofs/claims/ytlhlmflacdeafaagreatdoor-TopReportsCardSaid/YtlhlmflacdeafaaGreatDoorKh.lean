/-
  Closed facts of the row of TopReports.
-/
import Derived.Test.YtlhlmflacdeafaaGreatDoorLaid
namespace Go.Proofs.YtlhlmflacdeafaaGreatDoor
open Go

theorem tr_k24 : Tryz.prog.mayEnter = true := by kernel_rfl
end Go.Proofs.YtlhlmflacdeafaaGreatDoor
