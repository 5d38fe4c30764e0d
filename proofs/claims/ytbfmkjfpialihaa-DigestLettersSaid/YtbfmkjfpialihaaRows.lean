/-
  No cell of these rows narrows 'for every input' (looked for: loops, veiled, ifaces, maps, wideKeys, modest, calm, conditions, laid).
  DERIVED. THE GIVEN ROWS OF THIS SEAT. 10 by the template 'for every input the law returns true; each argument reads behind the call as it read before'; 0 by the template 'total and deterministic' (their statements: YtbfmkjfpialihaaTotals.lean).
  GIVEN WITH THE SEED: the statements are not yours to turn. If you find one false, say at which input.
  Laid BY PROGRAM, IN A SANDBOX (cutbox-rows.mjs): the forced cells as the released guide's own fill.sh prints them over the translation fca819208c818ea7… (all of the seat's roots in one cut). By AI agents, Wed Nov 11 2026. No macro, syntax, notation, axiom, sorry.
-/
import Derived.Test.YtbfmkjfpialihaaChecked
import GoSem.Claim
import GoSem.ClaimJoined
import GoSem.ClaimMapViews
import Derived.JoinedTies
import Derived.KernelRfl
namespace Go.Proofs.Ytbfmkjfpialihaa
/- THE CELL 'sum', in the pinned program and in every row, IS THE sha256 OF THE DUMP (.gsa) THAT YtbfmkjfpialihaaProg.lean LOADS. Nothing in Lean hashes anything: it is a label: what it is worth is what the hold of that sum in a sandbox is worth. -/
noncomputable def Try.pinned : Pinned := { name := "ytbfmkjfpialihaa", sum := "fca819208c818ea70eef88ebfd9a63bc3639d3e92d18ec2bf7da38a4b15ad731", checked := Try.checked }
namespace Rows
def none {H : Type} : Left H := { results := [], args := [] }

/-- 'onionskinlaw01.ShaSums': WHATEVER THE INPUT: true; the input reads as it did. -/
def shaSumsSpec : ChangeSpec := { name := "shaSums", fn := fun _ => fun
  | [d] => { results := [.lit (.bool true)], args := [d] }
  | _ => none }
def shaSumsRow : OpenClaim := { program := "ytbfmkjfpialihaa", sum := "fca819208c818ea70eef88ebfd9a63bc3639d3e92d18ec2bf7da38a4b15ad731", func := "onionskin/onionskinlaw01.ShaSums", spec := "shaSums", apart := false }
def ShaSumsSaid : Prop := shaSumsRow.holds Try.pinned (OpenSpec.ofChange shaSumsSpec)

/-- ITS FALSE NEIGHBOUR: 'it returns false'. Refute it at one input. -/
def shaSumsWrong : ChangeSpec := { name := "shaSums", fn := fun _ => fun
  | [d] => { results := [.lit (.bool false)], args := [d] }
  | _ => none }
def ShaSumsWrongFalsely : Prop := shaSumsRow.holds Try.pinned (OpenSpec.ofChange shaSumsWrong)

/-- 'onionskinlaw01.ShaPieces': WHATEVER THE INPUT: true; the input reads as it did. -/
def shaPiecesSpec : ChangeSpec := { name := "shaPieces", fn := fun _ => fun
  | [d] => { results := [.lit (.bool true)], args := [d] }
  | _ => none }
def shaPiecesRow : OpenClaim := { program := "ytbfmkjfpialihaa", sum := "fca819208c818ea70eef88ebfd9a63bc3639d3e92d18ec2bf7da38a4b15ad731", func := "onionskin/onionskinlaw01.ShaPieces", spec := "shaPieces", apart := false }
def ShaPiecesSaid : Prop := shaPiecesRow.holds Try.pinned (OpenSpec.ofChange shaPiecesSpec)

/-- ITS FALSE NEIGHBOUR: 'it returns false'. Refute it at one input. -/
def shaPiecesWrong : ChangeSpec := { name := "shaPieces", fn := fun _ => fun
  | [d] => { results := [.lit (.bool false)], args := [d] }
  | _ => none }
def ShaPiecesWrongFalsely : Prop := shaPiecesRow.holds Try.pinned (OpenSpec.ofChange shaPiecesWrong)

/-- 'onionskinlaw01.ShaLong': WHATEVER THE INPUT: true; the input reads as it did. -/
def shaLongSpec : ChangeSpec := { name := "shaLong", fn := fun _ => fun
  | [d1, d2] => { results := [.lit (.bool true)], args := [d1, d2] }
  | _ => none }
def shaLongRow : OpenClaim := { program := "ytbfmkjfpialihaa", sum := "fca819208c818ea70eef88ebfd9a63bc3639d3e92d18ec2bf7da38a4b15ad731", func := "onionskin/onionskinlaw01.ShaLong", spec := "shaLong", apart := false }
def ShaLongSaid : Prop := shaLongRow.holds Try.pinned (OpenSpec.ofChange shaLongSpec)

/-- ITS FALSE NEIGHBOUR: 'it returns false'. Refute it at one input. -/
def shaLongWrong : ChangeSpec := { name := "shaLong", fn := fun _ => fun
  | [d1, d2] => { results := [.lit (.bool false)], args := [d1, d2] }
  | _ => none }
def ShaLongWrongFalsely : Prop := shaLongRow.holds Try.pinned (OpenSpec.ofChange shaLongWrong)

/-- 'onionskinlaw01.ShaTwo': WHATEVER THE INPUT: true; the input reads as it did. -/
def shaTwoSpec : ChangeSpec := { name := "shaTwo", fn := fun _ => fun
  | [d1, d2] => { results := [.lit (.bool true)], args := [d1, d2] }
  | _ => none }
def shaTwoRow : OpenClaim := { program := "ytbfmkjfpialihaa", sum := "fca819208c818ea70eef88ebfd9a63bc3639d3e92d18ec2bf7da38a4b15ad731", func := "onionskin/onionskinlaw01.ShaTwo", spec := "shaTwo", apart := false }
def ShaTwoSaid : Prop := shaTwoRow.holds Try.pinned (OpenSpec.ofChange shaTwoSpec)

/-- ITS FALSE NEIGHBOUR: 'it returns false'. Refute it at one input. -/
def shaTwoWrong : ChangeSpec := { name := "shaTwo", fn := fun _ => fun
  | [d1, d2] => { results := [.lit (.bool false)], args := [d1, d2] }
  | _ => none }
def ShaTwoWrongFalsely : Prop := shaTwoRow.holds Try.pinned (OpenSpec.ofChange shaTwoWrong)

/-- 'onionskinlaw01.ShaNothing': WHATEVER THE INPUT: true; the input reads as it did. -/
def shaNothingSpec : ChangeSpec := { name := "shaNothing", fn := fun _ => fun
  | [d] => { results := [.lit (.bool true)], args := [d] }
  | _ => none }
def shaNothingRow : OpenClaim := { program := "ytbfmkjfpialihaa", sum := "fca819208c818ea70eef88ebfd9a63bc3639d3e92d18ec2bf7da38a4b15ad731", func := "onionskin/onionskinlaw01.ShaNothing", spec := "shaNothing", apart := false }
def ShaNothingSaid : Prop := shaNothingRow.holds Try.pinned (OpenSpec.ofChange shaNothingSpec)

/-- ITS FALSE NEIGHBOUR: 'it returns false'. Refute it at one input. -/
def shaNothingWrong : ChangeSpec := { name := "shaNothing", fn := fun _ => fun
  | [d] => { results := [.lit (.bool false)], args := [d] }
  | _ => none }
def ShaNothingWrongFalsely : Prop := shaNothingRow.holds Try.pinned (OpenSpec.ofChange shaNothingWrong)

/-- 'onionskinlaw02.DigestTells': WHATEVER THE INPUT: true; the input reads as it did. -/
def digestTellsSpec : ChangeSpec := { name := "digestTells", fn := fun _ => fun
  | [d1, d2, d3] => { results := [.lit (.bool true)], args := [d1, d2, d3] }
  | _ => none }
def digestTellsRow : OpenClaim := { program := "ytbfmkjfpialihaa", sum := "fca819208c818ea70eef88ebfd9a63bc3639d3e92d18ec2bf7da38a4b15ad731", func := "onionskin/onionskinlaw02.DigestTells", spec := "digestTells", inPlace := ["internal/bytealg.IndexByteString"], apart := false }
def DigestTellsSaid : Prop := digestTellsRow.holds Try.pinned (OpenSpec.ofChange digestTellsSpec)

/-- ITS FALSE NEIGHBOUR: 'it returns false'. Refute it at one input. -/
def digestTellsWrong : ChangeSpec := { name := "digestTells", fn := fun _ => fun
  | [d1, d2, d3] => { results := [.lit (.bool false)], args := [d1, d2, d3] }
  | _ => none }
def DigestTellsWrongFalsely : Prop := digestTellsRow.holds Try.pinned (OpenSpec.ofChange digestTellsWrong)

/-- 'onionskinlaw02.DigestBack': WHATEVER THE INPUT: true; the input reads as it did. -/
def digestBackSpec : ChangeSpec := { name := "digestBack", fn := fun _ => fun
  | [d1, d2] => { results := [.lit (.bool true)], args := [d1, d2] }
  | _ => none }
def digestBackRow : OpenClaim := { program := "ytbfmkjfpialihaa", sum := "fca819208c818ea70eef88ebfd9a63bc3639d3e92d18ec2bf7da38a4b15ad731", func := "onionskin/onionskinlaw02.DigestBack", spec := "digestBack", inPlace := ["internal/bytealg.IndexByteString"], apart := false }
def DigestBackSaid : Prop := digestBackRow.holds Try.pinned (OpenSpec.ofChange digestBackSpec)

/-- ITS FALSE NEIGHBOUR: 'it returns false'. Refute it at one input. -/
def digestBackWrong : ChangeSpec := { name := "digestBack", fn := fun _ => fun
  | [d1, d2] => { results := [.lit (.bool false)], args := [d1, d2] }
  | _ => none }
def DigestBackWrongFalsely : Prop := digestBackRow.holds Try.pinned (OpenSpec.ofChange digestBackWrong)

/-- 'onionskinlaw02.DigestOrder': WHATEVER THE INPUT: true; the input reads as it did. -/
def digestOrderSpec : ChangeSpec := { name := "digestOrder", fn := fun _ => fun
  | [d1, d2, d3] => { results := [.lit (.bool true)], args := [d1, d2, d3] }
  | _ => none }
def digestOrderRow : OpenClaim := { program := "ytbfmkjfpialihaa", sum := "fca819208c818ea70eef88ebfd9a63bc3639d3e92d18ec2bf7da38a4b15ad731", func := "onionskin/onionskinlaw02.DigestOrder", spec := "digestOrder", inPlace := ["internal/bytealg.IndexByteString"], apart := false }
def DigestOrderSaid : Prop := digestOrderRow.holds Try.pinned (OpenSpec.ofChange digestOrderSpec)

/-- ITS FALSE NEIGHBOUR: 'it returns false'. Refute it at one input. -/
def digestOrderWrong : ChangeSpec := { name := "digestOrder", fn := fun _ => fun
  | [d1, d2, d3] => { results := [.lit (.bool false)], args := [d1, d2, d3] }
  | _ => none }
def DigestOrderWrongFalsely : Prop := digestOrderRow.holds Try.pinned (OpenSpec.ofChange digestOrderWrong)

/-- 'onionskinlaw02.DigestLetters': WHATEVER THE INPUT: true; the input reads as it did. -/
def digestLettersSpec : ChangeSpec := { name := "digestLetters", fn := fun _ => fun
  | [d1, d2, d3] => { results := [.lit (.bool true)], args := [d1, d2, d3] }
  | _ => none }
def digestLettersRow : OpenClaim := { program := "ytbfmkjfpialihaa", sum := "fca819208c818ea70eef88ebfd9a63bc3639d3e92d18ec2bf7da38a4b15ad731", func := "onionskin/onionskinlaw02.DigestLetters", spec := "digestLetters", inPlace := ["internal/bytealg.IndexByteString"], apart := false }
def DigestLettersSaid : Prop := digestLettersRow.holds Try.pinned (OpenSpec.ofChange digestLettersSpec)

/-- ITS FALSE NEIGHBOUR: 'it returns false'. Refute it at one input. -/
def digestLettersWrong : ChangeSpec := { name := "digestLetters", fn := fun _ => fun
  | [d1, d2, d3] => { results := [.lit (.bool false)], args := [d1, d2, d3] }
  | _ => none }
def DigestLettersWrongFalsely : Prop := digestLettersRow.holds Try.pinned (OpenSpec.ofChange digestLettersWrong)

/-- 'onionskinlaw02.DigestOf': WHATEVER THE INPUT: true; the input reads as it did. -/
def digestOfSpec : ChangeSpec := { name := "digestOf", fn := fun _ => fun
  | [d] => { results := [.lit (.bool true)], args := [d] }
  | _ => none }
def digestOfRow : OpenClaim := { program := "ytbfmkjfpialihaa", sum := "fca819208c818ea70eef88ebfd9a63bc3639d3e92d18ec2bf7da38a4b15ad731", func := "onionskin/onionskinlaw02.DigestOf", spec := "digestOf", inPlace := ["internal/bytealg.IndexByteString"], apart := false }
def DigestOfSaid : Prop := digestOfRow.holds Try.pinned (OpenSpec.ofChange digestOfSpec)

/-- ITS FALSE NEIGHBOUR: 'it returns false'. Refute it at one input. -/
def digestOfWrong : ChangeSpec := { name := "digestOf", fn := fun _ => fun
  | [d] => { results := [.lit (.bool false)], args := [d] }
  | _ => none }
def DigestOfWrongFalsely : Prop := digestOfRow.holds Try.pinned (OpenSpec.ofChange digestOfWrong)

/- THE SECOND FORM. 'bulk': how many values and letters a reading holds, each counted each time it is reached (what is shared counts as often as it is met; a slice's spare places count too). A statement '..UptoSaid' is the law's where the arguments, and the package variables that the reading takes, are together of bulk at most 1048576: NARROWER than '..Said'. Prove '..Said' where nothing that the law and all that it calls make is longer than what came in: it says more and counts as full. Else prove '..UptoSaid'. A law counts once. -/
mutual
def uptoBulk {H : Type} : DataW H → Nat
  | .lit (.string bytes) => bytes.length + 1
  | .lit _ => 1
  | .nil => 1
  | .ptr d => uptoBulk d + 1
  | .slice elems spare => uptoBulkAll elems + uptoBulkAll spare + 1
  | .agg parts => uptoBulkAll parts + 1
  | .iface _ d => uptoBulk d + 1
  | .map entries => uptoBulkEntries entries + 1
  | .held _ => 1
def uptoBulkAll {H : Type} : List (DataW H) → Nat
  | [] => 0
  | d :: r => uptoBulk d + uptoBulkAll r
def uptoBulkEntries {H : Type} : List (Lit × DataW H) → Nat
  | [] => 0
  | x :: r => uptoBulkEntry x + uptoBulkEntries r
def uptoBulkEntry {H : Type} : Lit × DataW H → Nat
  | (.string bytes, d) => bytes.length + uptoBulk d + 1
  | (_, d) => uptoBulk d + 1
 end
def uptoSmall : (H : Type) → List (DataW H) → Bool := fun _ ds => decide (uptoBulkAll ds ≤ 1048576)
def OpenSpec.upto (s : _root_.Go.ChangeSpec) : _root_.Go.OpenSpec := { _root_.Go.OpenSpec.ofChange s with cond := some uptoSmall }

/-- 'onionskinlaw01.ShaSums', WHERE WHAT IT READS IS OF BULK AT MOST 1048576: true; the input reads as it did. -/
def shaSumsUptoRow : OpenClaim := { program := "ytbfmkjfpialihaa", sum := "fca819208c818ea70eef88ebfd9a63bc3639d3e92d18ec2bf7da38a4b15ad731", func := "onionskin/onionskinlaw01.ShaSums", spec := "shaSums", apart := false, narrowed := true }
def ShaSumsUptoSaid : Prop := shaSumsUptoRow.holds Try.pinned (OpenSpec.upto shaSumsSpec)

/-- 'onionskinlaw01.ShaPieces', WHERE WHAT IT READS IS OF BULK AT MOST 1048576: true; the input reads as it did. -/
def shaPiecesUptoRow : OpenClaim := { program := "ytbfmkjfpialihaa", sum := "fca819208c818ea70eef88ebfd9a63bc3639d3e92d18ec2bf7da38a4b15ad731", func := "onionskin/onionskinlaw01.ShaPieces", spec := "shaPieces", apart := false, narrowed := true }
def ShaPiecesUptoSaid : Prop := shaPiecesUptoRow.holds Try.pinned (OpenSpec.upto shaPiecesSpec)

/-- 'onionskinlaw01.ShaLong', WHERE WHAT IT READS IS OF BULK AT MOST 1048576: true; the input reads as it did. -/
def shaLongUptoRow : OpenClaim := { program := "ytbfmkjfpialihaa", sum := "fca819208c818ea70eef88ebfd9a63bc3639d3e92d18ec2bf7da38a4b15ad731", func := "onionskin/onionskinlaw01.ShaLong", spec := "shaLong", apart := false, narrowed := true }
def ShaLongUptoSaid : Prop := shaLongUptoRow.holds Try.pinned (OpenSpec.upto shaLongSpec)

/-- 'onionskinlaw01.ShaTwo', WHERE WHAT IT READS IS OF BULK AT MOST 1048576: true; the input reads as it did. -/
def shaTwoUptoRow : OpenClaim := { program := "ytbfmkjfpialihaa", sum := "fca819208c818ea70eef88ebfd9a63bc3639d3e92d18ec2bf7da38a4b15ad731", func := "onionskin/onionskinlaw01.ShaTwo", spec := "shaTwo", apart := false, narrowed := true }
def ShaTwoUptoSaid : Prop := shaTwoUptoRow.holds Try.pinned (OpenSpec.upto shaTwoSpec)

/-- 'onionskinlaw01.ShaNothing', WHERE WHAT IT READS IS OF BULK AT MOST 1048576: true; the input reads as it did. -/
def shaNothingUptoRow : OpenClaim := { program := "ytbfmkjfpialihaa", sum := "fca819208c818ea70eef88ebfd9a63bc3639d3e92d18ec2bf7da38a4b15ad731", func := "onionskin/onionskinlaw01.ShaNothing", spec := "shaNothing", apart := false, narrowed := true }
def ShaNothingUptoSaid : Prop := shaNothingUptoRow.holds Try.pinned (OpenSpec.upto shaNothingSpec)

/-- 'onionskinlaw02.DigestTells', WHERE WHAT IT READS IS OF BULK AT MOST 1048576: true; the input reads as it did. -/
def digestTellsUptoRow : OpenClaim := { program := "ytbfmkjfpialihaa", sum := "fca819208c818ea70eef88ebfd9a63bc3639d3e92d18ec2bf7da38a4b15ad731", func := "onionskin/onionskinlaw02.DigestTells", spec := "digestTells", inPlace := ["internal/bytealg.IndexByteString"], apart := false, narrowed := true }
def DigestTellsUptoSaid : Prop := digestTellsUptoRow.holds Try.pinned (OpenSpec.upto digestTellsSpec)

/-- 'onionskinlaw02.DigestBack', WHERE WHAT IT READS IS OF BULK AT MOST 1048576: true; the input reads as it did. -/
def digestBackUptoRow : OpenClaim := { program := "ytbfmkjfpialihaa", sum := "fca819208c818ea70eef88ebfd9a63bc3639d3e92d18ec2bf7da38a4b15ad731", func := "onionskin/onionskinlaw02.DigestBack", spec := "digestBack", inPlace := ["internal/bytealg.IndexByteString"], apart := false, narrowed := true }
def DigestBackUptoSaid : Prop := digestBackUptoRow.holds Try.pinned (OpenSpec.upto digestBackSpec)

/-- 'onionskinlaw02.DigestOrder', WHERE WHAT IT READS IS OF BULK AT MOST 1048576: true; the input reads as it did. -/
def digestOrderUptoRow : OpenClaim := { program := "ytbfmkjfpialihaa", sum := "fca819208c818ea70eef88ebfd9a63bc3639d3e92d18ec2bf7da38a4b15ad731", func := "onionskin/onionskinlaw02.DigestOrder", spec := "digestOrder", inPlace := ["internal/bytealg.IndexByteString"], apart := false, narrowed := true }
def DigestOrderUptoSaid : Prop := digestOrderUptoRow.holds Try.pinned (OpenSpec.upto digestOrderSpec)

/-- 'onionskinlaw02.DigestLetters', WHERE WHAT IT READS IS OF BULK AT MOST 1048576: true; the input reads as it did. -/
def digestLettersUptoRow : OpenClaim := { program := "ytbfmkjfpialihaa", sum := "fca819208c818ea70eef88ebfd9a63bc3639d3e92d18ec2bf7da38a4b15ad731", func := "onionskin/onionskinlaw02.DigestLetters", spec := "digestLetters", inPlace := ["internal/bytealg.IndexByteString"], apart := false, narrowed := true }
def DigestLettersUptoSaid : Prop := digestLettersUptoRow.holds Try.pinned (OpenSpec.upto digestLettersSpec)

/-- 'onionskinlaw02.DigestOf', WHERE WHAT IT READS IS OF BULK AT MOST 1048576: true; the input reads as it did. -/
def digestOfUptoRow : OpenClaim := { program := "ytbfmkjfpialihaa", sum := "fca819208c818ea70eef88ebfd9a63bc3639d3e92d18ec2bf7da38a4b15ad731", func := "onionskin/onionskinlaw02.DigestOf", spec := "digestOf", inPlace := ["internal/bytealg.IndexByteString"], apart := false, narrowed := true }
def DigestOfUptoSaid : Prop := digestOfUptoRow.holds Try.pinned (OpenSpec.upto digestOfSpec)

end Rows
end Go.Proofs.Ytbfmkjfpialihaa
