/-
  DERIVED. GIVEN WITH THE SEED: THE CARDS: each row of YtdidhokilifakaaGreatDoorRows.lean that lists a variable, with what it lists TIED to the program's text (the seventh form; the later family's looks); each row that meets fmt, with fmt's text TOLD by the authors' own Lean function (tested against real Go, not proved from fmt's source: count such statements apart). THE CARD IS WHAT COUNTS. Prove the row's statement (the work); the ties are given (YtdidhokilifakaaGreatDoorTie.lean); close each card by the builder's one call (the guide's Derived/Test/ToyasCard.lean, 'card_holds'). Laid BY PROGRAM, IN A SANDBOX (cutbox-door.mjs). By AI agents, Wed Nov 11 2026. No macro, syntax, notation, axiom, sorry.
-/
import Derived.Test.YtdidhokilifakaaGreatDoorRows
import GoSem.ClaimSeven
namespace Go.Proofs.YtdidhokilifakaaGreatDoor
namespace Rows

/-- THE TIED CARD OF 'runnellaw26.ReportInputs'. -/
def reportInputsCard : Claim7 := { stood := { row := reportInputsRow, standIns := [], harness := (true, "6fe15c84cd8623478910e70b599ea55a475bcfbcf03c89722bf66119c482800d"), looks := true }, kinds := [], alts := [], laidByText := true, laidKinds := [.sentinel, .sentinel, .data, .data, .data, .pinned, .data], laidTests := true, laidLooks := .later }
def ReportInputsCardSaid : Prop := Claim7.holds Tryz.pinned (.plain (OpenSpec.ofChange reportInputsSpec)) reportInputsCard

/-- THE SECOND FORM's CARD OF 'runnellaw26.ReportInputs'. -/
def reportInputsUptoCard : Claim7 := { stood := { row := reportInputsUptoRow, standIns := [], harness := (true, "6fe15c84cd8623478910e70b599ea55a475bcfbcf03c89722bf66119c482800d"), looks := true }, kinds := [], alts := [], laidByText := true, laidKinds := [.sentinel, .sentinel, .data, .data, .data, .pinned, .data], laidTests := true, laidLooks := .later }
def ReportInputsUptoCardSaid : Prop := Claim7.holds Tryz.pinned (.plain (OpenSpec.upto reportInputsSpec)) reportInputsUptoCard
end Rows
end Go.Proofs.YtdidhokilifakaaGreatDoor
