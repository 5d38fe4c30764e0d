/-
  DERIVED. GIVEN WITH THE SEED: THE CARDS: each row of YtjopikfkgjbcgaaDoorRows.lean that lists a variable, with what it lists TIED to the program's text (the seventh form; the later family's looks); each row that meets fmt, with fmt's text TOLD by the authors' own Lean function (tested against real Go, not proved from fmt's source: count such statements apart). THE CARD IS WHAT COUNTS. Prove the row's statement (the work); the ties are given (YtjopikfkgjbcgaaDoorTie.lean); close each card by the builder's one call (the guide's Derived/Test/ToyasCard.lean, 'card_holds'). Laid BY PROGRAM, IN A SANDBOX (cutbox-door.mjs). By AI agents, Wed Nov 11 2026. No macro, syntax, notation, axiom, sorry.
-/
import Derived.Test.YtjopikfkgjbcgaaDoorRows
import GoSem.ClaimSeven
namespace Go.Proofs.YtjopikfkgjbcgaaDoor
namespace Rows

/-- THE TIED CARD OF 'onionskinlaw12.JobjBack'. -/
def jobjBackCard : Claim7 := { stood := { row := jobjBackRow, standIns := [], harness := (true, "a7ec2c077fb089a779b2126c05a51a3e864c0c1fa116ce4e04905794e2b8067b"), looks := false }, kinds := [], alts := [], laidByText := true, laidKinds := [.data, .data, .data, .data, .pinned], laidTests := true, laidLooks := .later }
def JobjBackCardSaid : Prop := Claim7.holds Tryd.pinned (.plain (OpenSpec.ofChange jobjBackSpec)) jobjBackCard

/-- THE TIED CARD OF 'onionskinlaw12.JobjItems'. -/
def jobjItemsCard : Claim7 := { stood := { row := jobjItemsRow, standIns := [], harness := (true, "a7ec2c077fb089a779b2126c05a51a3e864c0c1fa116ce4e04905794e2b8067b"), looks := false }, kinds := [], alts := [], laidByText := true, laidKinds := [.data, .data, .data, .data, .pinned], laidTests := true, laidLooks := .later }
def JobjItemsCardSaid : Prop := Claim7.holds Tryd.pinned (.plain (OpenSpec.ofChange jobjItemsSpec)) jobjItemsCard

/-- THE TIED CARD OF 'onionskinlaw12.JobjLooks'. -/
def jobjLooksCard : Claim7 := { stood := { row := jobjLooksRow, standIns := [], harness := (true, "a7ec2c077fb089a779b2126c05a51a3e864c0c1fa116ce4e04905794e2b8067b"), looks := false }, kinds := [], alts := [], laidByText := true, laidKinds := [.data, .data, .data, .data, .pinned], laidTests := true, laidLooks := .later }
def JobjLooksCardSaid : Prop := Claim7.holds Tryd.pinned (.plain (OpenSpec.ofChange jobjLooksSpec)) jobjLooksCard

/-- THE TIED CARD OF 'onionskinlaw12.JobjSets'. -/
def jobjSetsCard : Claim7 := { stood := { row := jobjSetsRow, standIns := [], harness := (true, "a7ec2c077fb089a779b2126c05a51a3e864c0c1fa116ce4e04905794e2b8067b"), looks := false }, kinds := [], alts := [], laidByText := true, laidKinds := [.data, .data, .data, .data, .pinned], laidTests := true, laidLooks := .later }
def JobjSetsCardSaid : Prop := Claim7.holds Tryd.pinned (.plain (OpenSpec.ofChange jobjSetsSpec)) jobjSetsCard

/-- THE SECOND FORM's CARD OF 'onionskinlaw12.JobjBack'. -/
def jobjBackUptoCard : Claim7 := { stood := { row := jobjBackUptoRow, standIns := [], harness := (true, "a7ec2c077fb089a779b2126c05a51a3e864c0c1fa116ce4e04905794e2b8067b"), looks := false }, kinds := [], alts := [], laidByText := true, laidKinds := [.data, .data, .data, .data, .pinned], laidTests := true, laidLooks := .later }
def JobjBackUptoCardSaid : Prop := Claim7.holds Tryd.pinned (.plain (OpenSpec.upto jobjBackSpec)) jobjBackUptoCard

/-- THE SECOND FORM's CARD OF 'onionskinlaw12.JobjItems'. -/
def jobjItemsUptoCard : Claim7 := { stood := { row := jobjItemsUptoRow, standIns := [], harness := (true, "a7ec2c077fb089a779b2126c05a51a3e864c0c1fa116ce4e04905794e2b8067b"), looks := false }, kinds := [], alts := [], laidByText := true, laidKinds := [.data, .data, .data, .data, .pinned], laidTests := true, laidLooks := .later }
def JobjItemsUptoCardSaid : Prop := Claim7.holds Tryd.pinned (.plain (OpenSpec.upto jobjItemsSpec)) jobjItemsUptoCard

/-- THE SECOND FORM's CARD OF 'onionskinlaw12.JobjLooks'. -/
def jobjLooksUptoCard : Claim7 := { stood := { row := jobjLooksUptoRow, standIns := [], harness := (true, "a7ec2c077fb089a779b2126c05a51a3e864c0c1fa116ce4e04905794e2b8067b"), looks := false }, kinds := [], alts := [], laidByText := true, laidKinds := [.data, .data, .data, .data, .pinned], laidTests := true, laidLooks := .later }
def JobjLooksUptoCardSaid : Prop := Claim7.holds Tryd.pinned (.plain (OpenSpec.upto jobjLooksSpec)) jobjLooksUptoCard

/-- THE SECOND FORM's CARD OF 'onionskinlaw12.JobjSets'. -/
def jobjSetsUptoCard : Claim7 := { stood := { row := jobjSetsUptoRow, standIns := [], harness := (true, "a7ec2c077fb089a779b2126c05a51a3e864c0c1fa116ce4e04905794e2b8067b"), looks := false }, kinds := [], alts := [], laidByText := true, laidKinds := [.data, .data, .data, .data, .pinned], laidTests := true, laidLooks := .later }
def JobjSetsUptoCardSaid : Prop := Claim7.holds Tryd.pinned (.plain (OpenSpec.upto jobjSetsSpec)) jobjSetsUptoCard
end Rows
end Go.Proofs.YtjopikfkgjbcgaaDoor
