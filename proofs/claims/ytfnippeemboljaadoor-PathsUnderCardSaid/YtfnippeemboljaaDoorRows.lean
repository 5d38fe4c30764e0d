/-
  NARROWER THAN 'FOR EVERY INPUT', by the rows' own cells (each row's printed sentence says how): PathsTells: laid · PathsMarks: laid · PathsBack: laid · PathsOrder: laid · PathsUnder: laid.
  DERIVED. THE GIVEN ROWS OF THIS SEAT. 5 by the template 'for every input the law returns true; each argument reads behind the call as it read before'; 0 by the template 'total and deterministic' (their statements: YtfnippeemboljaaDoorTotals.lean).
  GIVEN WITH THE SEED: the statements are not yours to turn. If you find one false, say at which input.
  Laid BY PROGRAM, IN A SANDBOX (cutbox-rows.mjs): the forced cells as the released guide's own fill.sh prints them over the translation 985b286b3a28219f… (all of the seat's roots in one cut). By AI agents, Wed Nov 11 2026. No macro, syntax, notation, axiom, sorry.
-/
import Derived.Test.YtfnippeemboljaaDoorChecked
import GoSem.PinnedTables
import GoSem.Claim
import GoSem.ClaimJoined
import GoSem.ClaimMapViews
import Derived.JoinedTies
import Derived.KernelRfl
namespace Go.Proofs.YtfnippeemboljaaDoor
/- THE CELL 'sum', in the pinned program and in every row, IS THE sha256 OF THE DUMP (.gsa) THAT YtfnippeemboljaaDoorProg.lean LOADS. Nothing in Lean hashes anything: it is a label: what it is worth is what the hold of that sum in a sandbox is worth. -/
noncomputable def Tryd.pinned : Pinned := { name := "ytfnippeemboljaadoor", sum := "985b286b3a28219f43fa063c1abc995ff89e42ff65c57631e95e39f1e7c378e6", checked := Tryd.checked }
namespace Rows
def none {H : Type} : Left H := { results := [], args := [] }

/- WHAT THE LISTED PACKAGE-LEVEL VARIABLES READ AS WHEN THE CALL BEGINS. Each datum BY PROGRAM (the guide's laid-datum.mjs) off the statement by which the dump's own 'gosem.cut.vars' lays the variable. In a bare row this is a premise. The card (YtfnippeemboljaaDoorCards.lean) ties it to the program's text. -/
def laid_unicode_utf8_acceptRanges {H : Type} : DataW H := .agg [.agg [.lit (.int .u8 128), .lit (.int .u8 191)], .agg [.lit (.int .u8 160), .lit (.int .u8 191)], .agg [.lit (.int .u8 128), .lit (.int .u8 159)], .agg [.lit (.int .u8 144), .lit (.int .u8 191)], .agg [.lit (.int .u8 128), .lit (.int .u8 143)], .agg [.lit (.int .u8 0), .lit (.int .u8 0)], .agg [.lit (.int .u8 0), .lit (.int .u8 0)], .agg [.lit (.int .u8 0), .lit (.int .u8 0)], .agg [.lit (.int .u8 0), .lit (.int .u8 0)], .agg [.lit (.int .u8 0), .lit (.int .u8 0)], .agg [.lit (.int .u8 0), .lit (.int .u8 0)], .agg [.lit (.int .u8 0), .lit (.int .u8 0)], .agg [.lit (.int .u8 0), .lit (.int .u8 0)], .agg [.lit (.int .u8 0), .lit (.int .u8 0)], .agg [.lit (.int .u8 0), .lit (.int .u8 0)], .agg [.lit (.int .u8 0), .lit (.int .u8 0)]]
/-- One of Go's own tables, pinned by name: the form's constant. -/
def laid_unicode_utf8_first : DataW Unit := Go.Pinned.utf8First

/-- 'onionskinlaw15.PathsTells': WHATEVER THE INPUT: true; the input reads as it did. -/
def pathsTellsSpec : ChangeSpec := { name := "pathsTells", fn := fun _ => fun
  | [d1, d2] => { results := [.lit (.bool true)], args := [d1, d2] }
  | _ => none }
def pathsTellsRow : OpenClaim := { program := "ytfnippeemboljaadoor", sum := "985b286b3a28219f43fa063c1abc995ff89e42ff65c57631e95e39f1e7c378e6", func := "onionskin/onionskinlaw15.PathsTells", spec := "pathsTells", inPlace := ["internal/bytealg.CountString", "internal/bytealg.IndexByteString", "internal/bytealg.IndexString", "internal/abi.NoEscape", "internal/bytealg.MakeNoZero", "internal/bytealg.abigen_runtime_cmpstring"], unfollowed := true, recurses := true, named := ["unicode/utf8.first", "unicode/utf8.acceptRanges", "internal/bytealg.MaxLen"], apart := false, laid := [("unicode/utf8.acceptRanges", laid_unicode_utf8_acceptRanges), ("unicode/utf8.first", laid_unicode_utf8_first)] }
def PathsTellsSaid : Prop := pathsTellsRow.holds Tryd.pinned (OpenSpec.ofChange pathsTellsSpec)

/-- ITS FALSE NEIGHBOUR: 'it returns false'. Refute it at one input. -/
def pathsTellsWrong : ChangeSpec := { name := "pathsTells", fn := fun _ => fun
  | [d1, d2] => { results := [.lit (.bool false)], args := [d1, d2] }
  | _ => none }
def PathsTellsWrongFalsely : Prop := pathsTellsRow.holds Tryd.pinned (OpenSpec.ofChange pathsTellsWrong)

/-- 'onionskinlaw15.PathsMarks': WHATEVER THE INPUT: true; the input reads as it did. -/
def pathsMarksSpec : ChangeSpec := { name := "pathsMarks", fn := fun _ => fun
  | [d1, d2] => { results := [.lit (.bool true)], args := [d1, d2] }
  | _ => none }
def pathsMarksRow : OpenClaim := { program := "ytfnippeemboljaadoor", sum := "985b286b3a28219f43fa063c1abc995ff89e42ff65c57631e95e39f1e7c378e6", func := "onionskin/onionskinlaw15.PathsMarks", spec := "pathsMarks", inPlace := ["internal/bytealg.CountString", "internal/bytealg.IndexByteString", "internal/bytealg.IndexString", "internal/abi.NoEscape", "internal/bytealg.MakeNoZero", "internal/bytealg.abigen_runtime_cmpstring"], unfollowed := true, recurses := true, named := ["unicode/utf8.first", "unicode/utf8.acceptRanges", "internal/bytealg.MaxLen"], apart := false, laid := [("unicode/utf8.acceptRanges", laid_unicode_utf8_acceptRanges), ("unicode/utf8.first", laid_unicode_utf8_first)] }
def PathsMarksSaid : Prop := pathsMarksRow.holds Tryd.pinned (OpenSpec.ofChange pathsMarksSpec)

/-- ITS FALSE NEIGHBOUR: 'it returns false'. Refute it at one input. -/
def pathsMarksWrong : ChangeSpec := { name := "pathsMarks", fn := fun _ => fun
  | [d1, d2] => { results := [.lit (.bool false)], args := [d1, d2] }
  | _ => none }
def PathsMarksWrongFalsely : Prop := pathsMarksRow.holds Tryd.pinned (OpenSpec.ofChange pathsMarksWrong)

/-- 'onionskinlaw15.PathsBack': WHATEVER THE INPUT: true; the input reads as it did. -/
def pathsBackSpec : ChangeSpec := { name := "pathsBack", fn := fun _ => fun
  | [d1, d2] => { results := [.lit (.bool true)], args := [d1, d2] }
  | _ => none }
def pathsBackRow : OpenClaim := { program := "ytfnippeemboljaadoor", sum := "985b286b3a28219f43fa063c1abc995ff89e42ff65c57631e95e39f1e7c378e6", func := "onionskin/onionskinlaw15.PathsBack", spec := "pathsBack", inPlace := ["internal/bytealg.CountString", "internal/bytealg.IndexByteString", "internal/bytealg.IndexString", "internal/abi.NoEscape", "internal/bytealg.MakeNoZero", "internal/bytealg.abigen_runtime_cmpstring"], unfollowed := true, recurses := true, named := ["unicode/utf8.first", "unicode/utf8.acceptRanges", "internal/bytealg.MaxLen"], apart := false, laid := [("unicode/utf8.acceptRanges", laid_unicode_utf8_acceptRanges), ("unicode/utf8.first", laid_unicode_utf8_first)] }
def PathsBackSaid : Prop := pathsBackRow.holds Tryd.pinned (OpenSpec.ofChange pathsBackSpec)

/-- ITS FALSE NEIGHBOUR: 'it returns false'. Refute it at one input. -/
def pathsBackWrong : ChangeSpec := { name := "pathsBack", fn := fun _ => fun
  | [d1, d2] => { results := [.lit (.bool false)], args := [d1, d2] }
  | _ => none }
def PathsBackWrongFalsely : Prop := pathsBackRow.holds Tryd.pinned (OpenSpec.ofChange pathsBackWrong)

/-- 'onionskinlaw15.PathsOrder': WHATEVER THE INPUT: true; the input reads as it did. -/
def pathsOrderSpec : ChangeSpec := { name := "pathsOrder", fn := fun _ => fun
  | [d1, d2, d3] => { results := [.lit (.bool true)], args := [d1, d2, d3] }
  | _ => none }
def pathsOrderRow : OpenClaim := { program := "ytfnippeemboljaadoor", sum := "985b286b3a28219f43fa063c1abc995ff89e42ff65c57631e95e39f1e7c378e6", func := "onionskin/onionskinlaw15.PathsOrder", spec := "pathsOrder", inPlace := ["internal/bytealg.CountString", "internal/bytealg.IndexByteString", "internal/bytealg.IndexString", "internal/abi.NoEscape", "internal/bytealg.MakeNoZero", "internal/bytealg.abigen_runtime_cmpstring"], unfollowed := true, recurses := true, named := ["unicode/utf8.first", "unicode/utf8.acceptRanges", "internal/bytealg.MaxLen"], apart := false, laid := [("unicode/utf8.acceptRanges", laid_unicode_utf8_acceptRanges), ("unicode/utf8.first", laid_unicode_utf8_first)] }
def PathsOrderSaid : Prop := pathsOrderRow.holds Tryd.pinned (OpenSpec.ofChange pathsOrderSpec)

/-- ITS FALSE NEIGHBOUR: 'it returns false'. Refute it at one input. -/
def pathsOrderWrong : ChangeSpec := { name := "pathsOrder", fn := fun _ => fun
  | [d1, d2, d3] => { results := [.lit (.bool false)], args := [d1, d2, d3] }
  | _ => none }
def PathsOrderWrongFalsely : Prop := pathsOrderRow.holds Tryd.pinned (OpenSpec.ofChange pathsOrderWrong)

/-- 'onionskinlaw15.PathsUnder': WHATEVER THE INPUT: true; the input reads as it did. -/
def pathsUnderSpec : ChangeSpec := { name := "pathsUnder", fn := fun _ => fun
  | [d1, d2] => { results := [.lit (.bool true)], args := [d1, d2] }
  | _ => none }
def pathsUnderRow : OpenClaim := { program := "ytfnippeemboljaadoor", sum := "985b286b3a28219f43fa063c1abc995ff89e42ff65c57631e95e39f1e7c378e6", func := "onionskin/onionskinlaw15.PathsUnder", spec := "pathsUnder", inPlace := ["internal/bytealg.CountString", "internal/bytealg.IndexByteString", "internal/bytealg.IndexString", "internal/abi.NoEscape", "internal/bytealg.MakeNoZero", "internal/bytealg.abigen_runtime_cmpstring"], unfollowed := true, recurses := true, named := ["unicode/utf8.first", "unicode/utf8.acceptRanges", "internal/bytealg.MaxLen"], apart := false, laid := [("unicode/utf8.acceptRanges", laid_unicode_utf8_acceptRanges), ("unicode/utf8.first", laid_unicode_utf8_first)] }
def PathsUnderSaid : Prop := pathsUnderRow.holds Tryd.pinned (OpenSpec.ofChange pathsUnderSpec)

/-- ITS FALSE NEIGHBOUR: 'it returns false'. Refute it at one input. -/
def pathsUnderWrong : ChangeSpec := { name := "pathsUnder", fn := fun _ => fun
  | [d1, d2] => { results := [.lit (.bool false)], args := [d1, d2] }
  | _ => none }
def PathsUnderWrongFalsely : Prop := pathsUnderRow.holds Tryd.pinned (OpenSpec.ofChange pathsUnderWrong)

/- THE SECOND FORM. 'bulk': how many values and letters a reading holds, each counted each time it is reached (what is shared counts as often as it is met; a slice's spare places count too). A statement '..UptoSaid' is the law's where the arguments, and the package variables that the reading takes, are together of bulk at most 1048576: NARROWER than '..Said'. Prove '..Said' where nothing that the law and all that it calls make is longer than what came in: it says more and counts as full. Else prove '..UptoSaid'. A law counts once. -/
mutual
def uptoBulk {H : Type} : DataW H → Nat
  | .lit (.string bytes) => bytes.length + 1
  | .lit _ => 1
  | .nil => 1
  | .ptr d => uptoBulk d + 1
  | .slice elems spare => uptoBulkAll elems + uptoBulkAll spare + 1
  | .agg parts => uptoBulkAll parts + 1
  | .iface _ d => uptoBulk d + 1
  | .map entries => uptoBulkEntries entries + 1
  | .held _ => 1
def uptoBulkAll {H : Type} : List (DataW H) → Nat
  | [] => 0
  | d :: r => uptoBulk d + uptoBulkAll r
def uptoBulkEntries {H : Type} : List (Lit × DataW H) → Nat
  | [] => 0
  | x :: r => uptoBulkEntry x + uptoBulkEntries r
def uptoBulkEntry {H : Type} : Lit × DataW H → Nat
  | (.string bytes, d) => bytes.length + uptoBulk d + 1
  | (_, d) => uptoBulk d + 1
 end
def uptoSmall : (H : Type) → List (DataW H) → Bool := fun _ ds => decide (uptoBulkAll ds ≤ 1048576)
def OpenSpec.upto (s : _root_.Go.ChangeSpec) : _root_.Go.OpenSpec := { _root_.Go.OpenSpec.ofChange s with cond := some uptoSmall }

/-- 'onionskinlaw15.PathsTells', WHERE WHAT IT READS IS OF BULK AT MOST 1048576: true; the input reads as it did. -/
def pathsTellsUptoRow : OpenClaim := { program := "ytfnippeemboljaadoor", sum := "985b286b3a28219f43fa063c1abc995ff89e42ff65c57631e95e39f1e7c378e6", func := "onionskin/onionskinlaw15.PathsTells", spec := "pathsTells", inPlace := ["internal/bytealg.CountString", "internal/bytealg.IndexByteString", "internal/bytealg.IndexString", "internal/abi.NoEscape", "internal/bytealg.MakeNoZero", "internal/bytealg.abigen_runtime_cmpstring"], unfollowed := true, recurses := true, named := ["unicode/utf8.first", "unicode/utf8.acceptRanges", "internal/bytealg.MaxLen"], apart := false, laid := [("unicode/utf8.acceptRanges", laid_unicode_utf8_acceptRanges), ("unicode/utf8.first", laid_unicode_utf8_first)], narrowed := true }
def PathsTellsUptoSaid : Prop := pathsTellsUptoRow.holds Tryd.pinned (OpenSpec.upto pathsTellsSpec)

/-- 'onionskinlaw15.PathsMarks', WHERE WHAT IT READS IS OF BULK AT MOST 1048576: true; the input reads as it did. -/
def pathsMarksUptoRow : OpenClaim := { program := "ytfnippeemboljaadoor", sum := "985b286b3a28219f43fa063c1abc995ff89e42ff65c57631e95e39f1e7c378e6", func := "onionskin/onionskinlaw15.PathsMarks", spec := "pathsMarks", inPlace := ["internal/bytealg.CountString", "internal/bytealg.IndexByteString", "internal/bytealg.IndexString", "internal/abi.NoEscape", "internal/bytealg.MakeNoZero", "internal/bytealg.abigen_runtime_cmpstring"], unfollowed := true, recurses := true, named := ["unicode/utf8.first", "unicode/utf8.acceptRanges", "internal/bytealg.MaxLen"], apart := false, laid := [("unicode/utf8.acceptRanges", laid_unicode_utf8_acceptRanges), ("unicode/utf8.first", laid_unicode_utf8_first)], narrowed := true }
def PathsMarksUptoSaid : Prop := pathsMarksUptoRow.holds Tryd.pinned (OpenSpec.upto pathsMarksSpec)

/-- 'onionskinlaw15.PathsBack', WHERE WHAT IT READS IS OF BULK AT MOST 1048576: true; the input reads as it did. -/
def pathsBackUptoRow : OpenClaim := { program := "ytfnippeemboljaadoor", sum := "985b286b3a28219f43fa063c1abc995ff89e42ff65c57631e95e39f1e7c378e6", func := "onionskin/onionskinlaw15.PathsBack", spec := "pathsBack", inPlace := ["internal/bytealg.CountString", "internal/bytealg.IndexByteString", "internal/bytealg.IndexString", "internal/abi.NoEscape", "internal/bytealg.MakeNoZero", "internal/bytealg.abigen_runtime_cmpstring"], unfollowed := true, recurses := true, named := ["unicode/utf8.first", "unicode/utf8.acceptRanges", "internal/bytealg.MaxLen"], apart := false, laid := [("unicode/utf8.acceptRanges", laid_unicode_utf8_acceptRanges), ("unicode/utf8.first", laid_unicode_utf8_first)], narrowed := true }
def PathsBackUptoSaid : Prop := pathsBackUptoRow.holds Tryd.pinned (OpenSpec.upto pathsBackSpec)

/-- 'onionskinlaw15.PathsOrder', WHERE WHAT IT READS IS OF BULK AT MOST 1048576: true; the input reads as it did. -/
def pathsOrderUptoRow : OpenClaim := { program := "ytfnippeemboljaadoor", sum := "985b286b3a28219f43fa063c1abc995ff89e42ff65c57631e95e39f1e7c378e6", func := "onionskin/onionskinlaw15.PathsOrder", spec := "pathsOrder", inPlace := ["internal/bytealg.CountString", "internal/bytealg.IndexByteString", "internal/bytealg.IndexString", "internal/abi.NoEscape", "internal/bytealg.MakeNoZero", "internal/bytealg.abigen_runtime_cmpstring"], unfollowed := true, recurses := true, named := ["unicode/utf8.first", "unicode/utf8.acceptRanges", "internal/bytealg.MaxLen"], apart := false, laid := [("unicode/utf8.acceptRanges", laid_unicode_utf8_acceptRanges), ("unicode/utf8.first", laid_unicode_utf8_first)], narrowed := true }
def PathsOrderUptoSaid : Prop := pathsOrderUptoRow.holds Tryd.pinned (OpenSpec.upto pathsOrderSpec)

/-- 'onionskinlaw15.PathsUnder', WHERE WHAT IT READS IS OF BULK AT MOST 1048576: true; the input reads as it did. -/
def pathsUnderUptoRow : OpenClaim := { program := "ytfnippeemboljaadoor", sum := "985b286b3a28219f43fa063c1abc995ff89e42ff65c57631e95e39f1e7c378e6", func := "onionskin/onionskinlaw15.PathsUnder", spec := "pathsUnder", inPlace := ["internal/bytealg.CountString", "internal/bytealg.IndexByteString", "internal/bytealg.IndexString", "internal/abi.NoEscape", "internal/bytealg.MakeNoZero", "internal/bytealg.abigen_runtime_cmpstring"], unfollowed := true, recurses := true, named := ["unicode/utf8.first", "unicode/utf8.acceptRanges", "internal/bytealg.MaxLen"], apart := false, laid := [("unicode/utf8.acceptRanges", laid_unicode_utf8_acceptRanges), ("unicode/utf8.first", laid_unicode_utf8_first)], narrowed := true }
def PathsUnderUptoSaid : Prop := pathsUnderUptoRow.holds Tryd.pinned (OpenSpec.upto pathsUnderSpec)

end Rows
end Go.Proofs.YtfnippeemboljaaDoor
