/-
  DERIVED. GIVEN WITH THE SEED: THE CARDS: each row of YtfnippeemboljaaDoorRows.lean that lists a variable, with what it lists TIED to the program's text (the seventh form; the later family's looks); each row that meets fmt, with fmt's text TOLD by the authors' own Lean function (tested against real Go, not proved from fmt's source: count such statements apart). THE CARD IS WHAT COUNTS. Prove the row's statement (the work); the ties are given (YtfnippeemboljaaDoorTie.lean); close each card by the builder's one call (the guide's Derived/Test/ToyasCard.lean, 'card_holds'). Laid BY PROGRAM, IN A SANDBOX (cutbox-door.mjs). By AI agents, Wed Nov 11 2026. No macro, syntax, notation, axiom, sorry.
-/
import Derived.Test.YtfnippeemboljaaDoorRows
import GoSem.ClaimSeven
namespace Go.Proofs.YtfnippeemboljaaDoor
namespace Rows

/-- THE TIED CARD OF 'onionskinlaw15.PathsTells'. -/
def pathsTellsCard : Claim7 := { stood := { row := pathsTellsRow, standIns := [], harness := (true, "e91465aeb485ec10968dd75cd449eafdbf68ca0eff287ec1d187c6b06777b151"), looks := false }, kinds := [], alts := [], laidByText := true, laidKinds := [.data, .pinned], laidTests := true, laidLooks := .later }
def PathsTellsCardSaid : Prop := Claim7.holds Tryd.pinned (.plain (OpenSpec.ofChange pathsTellsSpec)) pathsTellsCard

/-- THE TIED CARD OF 'onionskinlaw15.PathsMarks'. -/
def pathsMarksCard : Claim7 := { stood := { row := pathsMarksRow, standIns := [], harness := (true, "e91465aeb485ec10968dd75cd449eafdbf68ca0eff287ec1d187c6b06777b151"), looks := false }, kinds := [], alts := [], laidByText := true, laidKinds := [.data, .pinned], laidTests := true, laidLooks := .later }
def PathsMarksCardSaid : Prop := Claim7.holds Tryd.pinned (.plain (OpenSpec.ofChange pathsMarksSpec)) pathsMarksCard

/-- THE TIED CARD OF 'onionskinlaw15.PathsBack'. -/
def pathsBackCard : Claim7 := { stood := { row := pathsBackRow, standIns := [], harness := (true, "e91465aeb485ec10968dd75cd449eafdbf68ca0eff287ec1d187c6b06777b151"), looks := false }, kinds := [], alts := [], laidByText := true, laidKinds := [.data, .pinned], laidTests := true, laidLooks := .later }
def PathsBackCardSaid : Prop := Claim7.holds Tryd.pinned (.plain (OpenSpec.ofChange pathsBackSpec)) pathsBackCard

/-- THE TIED CARD OF 'onionskinlaw15.PathsOrder'. -/
def pathsOrderCard : Claim7 := { stood := { row := pathsOrderRow, standIns := [], harness := (true, "e91465aeb485ec10968dd75cd449eafdbf68ca0eff287ec1d187c6b06777b151"), looks := false }, kinds := [], alts := [], laidByText := true, laidKinds := [.data, .pinned], laidTests := true, laidLooks := .later }
def PathsOrderCardSaid : Prop := Claim7.holds Tryd.pinned (.plain (OpenSpec.ofChange pathsOrderSpec)) pathsOrderCard

/-- THE TIED CARD OF 'onionskinlaw15.PathsUnder'. -/
def pathsUnderCard : Claim7 := { stood := { row := pathsUnderRow, standIns := [], harness := (true, "e91465aeb485ec10968dd75cd449eafdbf68ca0eff287ec1d187c6b06777b151"), looks := false }, kinds := [], alts := [], laidByText := true, laidKinds := [.data, .pinned], laidTests := true, laidLooks := .later }
def PathsUnderCardSaid : Prop := Claim7.holds Tryd.pinned (.plain (OpenSpec.ofChange pathsUnderSpec)) pathsUnderCard

/-- THE SECOND FORM's CARD OF 'onionskinlaw15.PathsTells'. -/
def pathsTellsUptoCard : Claim7 := { stood := { row := pathsTellsUptoRow, standIns := [], harness := (true, "e91465aeb485ec10968dd75cd449eafdbf68ca0eff287ec1d187c6b06777b151"), looks := false }, kinds := [], alts := [], laidByText := true, laidKinds := [.data, .pinned], laidTests := true, laidLooks := .later }
def PathsTellsUptoCardSaid : Prop := Claim7.holds Tryd.pinned (.plain (OpenSpec.upto pathsTellsSpec)) pathsTellsUptoCard

/-- THE SECOND FORM's CARD OF 'onionskinlaw15.PathsMarks'. -/
def pathsMarksUptoCard : Claim7 := { stood := { row := pathsMarksUptoRow, standIns := [], harness := (true, "e91465aeb485ec10968dd75cd449eafdbf68ca0eff287ec1d187c6b06777b151"), looks := false }, kinds := [], alts := [], laidByText := true, laidKinds := [.data, .pinned], laidTests := true, laidLooks := .later }
def PathsMarksUptoCardSaid : Prop := Claim7.holds Tryd.pinned (.plain (OpenSpec.upto pathsMarksSpec)) pathsMarksUptoCard

/-- THE SECOND FORM's CARD OF 'onionskinlaw15.PathsBack'. -/
def pathsBackUptoCard : Claim7 := { stood := { row := pathsBackUptoRow, standIns := [], harness := (true, "e91465aeb485ec10968dd75cd449eafdbf68ca0eff287ec1d187c6b06777b151"), looks := false }, kinds := [], alts := [], laidByText := true, laidKinds := [.data, .pinned], laidTests := true, laidLooks := .later }
def PathsBackUptoCardSaid : Prop := Claim7.holds Tryd.pinned (.plain (OpenSpec.upto pathsBackSpec)) pathsBackUptoCard

/-- THE SECOND FORM's CARD OF 'onionskinlaw15.PathsOrder'. -/
def pathsOrderUptoCard : Claim7 := { stood := { row := pathsOrderUptoRow, standIns := [], harness := (true, "e91465aeb485ec10968dd75cd449eafdbf68ca0eff287ec1d187c6b06777b151"), looks := false }, kinds := [], alts := [], laidByText := true, laidKinds := [.data, .pinned], laidTests := true, laidLooks := .later }
def PathsOrderUptoCardSaid : Prop := Claim7.holds Tryd.pinned (.plain (OpenSpec.upto pathsOrderSpec)) pathsOrderUptoCard

/-- THE SECOND FORM's CARD OF 'onionskinlaw15.PathsUnder'. -/
def pathsUnderUptoCard : Claim7 := { stood := { row := pathsUnderUptoRow, standIns := [], harness := (true, "e91465aeb485ec10968dd75cd449eafdbf68ca0eff287ec1d187c6b06777b151"), looks := false }, kinds := [], alts := [], laidByText := true, laidKinds := [.data, .pinned], laidTests := true, laidLooks := .later }
def PathsUnderUptoCardSaid : Prop := Claim7.holds Tryd.pinned (.plain (OpenSpec.upto pathsUnderSpec)) pathsUnderUptoCard
end Rows
end Go.Proofs.YtfnippeemboljaaDoor
