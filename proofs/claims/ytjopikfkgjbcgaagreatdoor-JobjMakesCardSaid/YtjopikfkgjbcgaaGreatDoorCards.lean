/-
  DERIVED. GIVEN WITH THE SEED: THE CARDS: each row of YtjopikfkgjbcgaaGreatDoorRows.lean that lists a variable, with what it lists TIED to the program's text (the seventh form; the later family's looks); each row that meets fmt, with fmt's text TOLD by the authors' own Lean function (tested against real Go, not proved from fmt's source: count such statements apart). THE CARD IS WHAT COUNTS. Prove the row's statement (the work); the ties are given (YtjopikfkgjbcgaaGreatDoorTie.lean); close each card by the builder's one call (the guide's Derived/Test/ToyasCard.lean, 'card_holds'). Laid BY PROGRAM, IN A SANDBOX (cutbox-door.mjs). By AI agents, Wed Nov 11 2026. No macro, syntax, notation, axiom, sorry.
-/
import Derived.Test.YtjopikfkgjbcgaaGreatDoorRows
import GoSem.ClaimSeven
namespace Go.Proofs.YtjopikfkgjbcgaaGreatDoor
namespace Rows

/-- THE TIED CARD OF 'onionskinlaw12.JobjMakes'. -/
def jobjMakesCard : Claim7 := { stood := { row := jobjMakesRow, standIns := [], harness := (true, "1adca1cb8d51a824bc43260584f4c8be21615cc66993d1f700bb2e49477b2cd0"), looks := false }, kinds := [], alts := [], laidByText := true, laidKinds := [.data, .data, .data, .data, .pinned], laidTests := true, laidLooks := .later }
def JobjMakesCardSaid : Prop := Claim7.holds Tryz.pinned (.plain (OpenSpec.ofChange jobjMakesSpec)) jobjMakesCard

/-- THE SECOND FORM's CARD OF 'onionskinlaw12.JobjMakes'. -/
def jobjMakesUptoCard : Claim7 := { stood := { row := jobjMakesUptoRow, standIns := [], harness := (true, "1adca1cb8d51a824bc43260584f4c8be21615cc66993d1f700bb2e49477b2cd0"), looks := false }, kinds := [], alts := [], laidByText := true, laidKinds := [.data, .data, .data, .data, .pinned], laidTests := true, laidLooks := .later }
def JobjMakesUptoCardSaid : Prop := Claim7.holds Tryz.pinned (.plain (OpenSpec.upto jobjMakesSpec)) jobjMakesUptoCard
end Rows
end Go.Proofs.YtjopikfkgjbcgaaGreatDoor
