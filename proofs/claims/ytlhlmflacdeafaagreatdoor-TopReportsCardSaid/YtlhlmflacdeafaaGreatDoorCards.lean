/-
  DERIVED. GIVEN WITH THE SEED: THE CARDS: each row of YtlhlmflacdeafaaGreatDoorRows.lean that lists a variable, with what it lists TIED to the program's text (the seventh form; the later family's looks); each row that meets fmt, with fmt's text TOLD by the authors' own Lean function (tested against real Go, not proved from fmt's source: count such statements apart). THE CARD IS WHAT COUNTS. Prove the row's statement (the work); the ties are given (YtlhlmflacdeafaaGreatDoorTie.lean); close each card by the builder's one call (the guide's Derived/Test/ToyasCard.lean, 'card_holds'). Laid BY PROGRAM, IN A SANDBOX (cutbox-door.mjs). By AI agents, Wed Nov 11 2026. No macro, syntax, notation, axiom, sorry.
-/
import Derived.Test.YtlhlmflacdeafaaGreatDoorRows
import GoSem.ClaimSeven
namespace Go.Proofs.YtlhlmflacdeafaaGreatDoor
namespace Rows

/-- THE TIED CARD OF 'dromondtop.TopOnce'. -/
def topOnceCard : Claim7 := { stood := { row := topOnceRow, standIns := [], harness := (true, "40837c3c5d139dfd2e059d62995180bc7ea382938b9f83e697e818700cbc3862"), looks := true }, kinds := [], alts := [], laidByText := true, laidKinds := [.sentinel], laidTests := true, laidLooks := .later }
def TopOnceCardSaid : Prop := Claim7.holds Tryz.pinned (.plain (OpenSpec.ofChange topOnceSpec)) topOnceCard

/-- THE TIED CARD OF 'dromondtop.TopReports'. -/
def topReportsCard : Claim7 := { stood := { row := topReportsRow, standIns := [], harness := (true, "40837c3c5d139dfd2e059d62995180bc7ea382938b9f83e697e818700cbc3862"), looks := true }, kinds := [], alts := [], laidByText := true, laidKinds := [.sentinel], laidTests := true, laidLooks := .later }
def TopReportsCardSaid : Prop := Claim7.holds Tryz.pinned (.plain (OpenSpec.ofChange topReportsSpec)) topReportsCard

/-- THE SECOND FORM's CARD OF 'dromondtop.TopOnce'. -/
def topOnceUptoCard : Claim7 := { stood := { row := topOnceUptoRow, standIns := [], harness := (true, "40837c3c5d139dfd2e059d62995180bc7ea382938b9f83e697e818700cbc3862"), looks := true }, kinds := [], alts := [], laidByText := true, laidKinds := [.sentinel], laidTests := true, laidLooks := .later }
def TopOnceUptoCardSaid : Prop := Claim7.holds Tryz.pinned (.plain (OpenSpec.upto topOnceSpec)) topOnceUptoCard

/-- THE SECOND FORM's CARD OF 'dromondtop.TopReports'. -/
def topReportsUptoCard : Claim7 := { stood := { row := topReportsUptoRow, standIns := [], harness := (true, "40837c3c5d139dfd2e059d62995180bc7ea382938b9f83e697e818700cbc3862"), looks := true }, kinds := [], alts := [], laidByText := true, laidKinds := [.sentinel], laidTests := true, laidLooks := .later }
def TopReportsUptoCardSaid : Prop := Claim7.holds Tryz.pinned (.plain (OpenSpec.upto topReportsSpec)) topReportsUptoCard
end Rows
end Go.Proofs.YtlhlmflacdeafaaGreatDoor
