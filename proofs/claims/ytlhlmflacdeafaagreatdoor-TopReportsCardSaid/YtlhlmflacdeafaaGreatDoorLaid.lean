/-
  The listed variable's datum: a world that meets it.
-/
import Derived.Test.YtlhlmflacdeafaaGreatDoorRows
import Derived.WalkKit
import Derived.ProofKit
import Derived.OpenShut
import Derived.ShutString
import Derived.ChangeVars
import Derived.JoinedOf
import Derived.LaidLaws
namespace Go.Proofs.YtlhlmflacdeafaaGreatDoor
open Go.ChangeShapes Go.WideShapes Go.RowKit

theorem ownZ : ownKnob Tryz.prog.godebug = none := by kernel_rfl
theorem tn563 : Tryz.prog.typeName? 3 563 = some "*errors.errorString" := by kernel_rfl
abbrev formS : ByteArray := { data := #[102, 111, 114, 109] }
noncomputable def lowZ : Nat := (World.holding Tryz.prog default ⟨#[], #[], []⟩).heap.size
noncomputable def laidWorld (os : Os) : World :=
  let w0 := World.holding Tryz.prog os ⟨#[.cells #[.string formS] 655], #[], []⟩
  { w0 with heap := w0.heap.modify 0 fun
      | .cells _ t frozen => .cells #[.iface 563 (.pointer (some ⟨lowZ, 0, none⟩))] t frozen
      | o => o }
theorem laidWorld_met (os : Os) (args : Array Value) : laidMet Tryz.prog [("dromond/asb.errForm", Rows.laid_dromond_asb_errForm)] ((laidWorld os).forCall (fun _ _ => 0) ⟨#[], args, []⟩).memory :=
  laidMet_of_run (ps := [.cell 0 0, .cell lowZ 0]) 8 (by kernel_rfl) (by kernel_rfl) (by kernel_rfl)
end Go.Proofs.YtlhlmflacdeafaaGreatDoor
