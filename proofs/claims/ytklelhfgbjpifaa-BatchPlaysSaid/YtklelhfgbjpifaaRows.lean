/-
  No cell of these rows narrows 'for every input' (looked for: loops, veiled, ifaces, maps, wideKeys, modest, calm, conditions, laid).
  DERIVED. THE GIVEN ROWS OF THIS SEAT. 11 by the template 'for every input the law returns true; each argument reads behind the call as it read before'; 0 by the template 'total and deterministic' (their statements: YtklelhfgbjpifaaTotals.lean).
  GIVEN WITH THE SEED: the statements are not yours to turn. If you find one false, say at which input.
  Laid BY PROGRAM, IN A SANDBOX (cutbox-rows.mjs): the forced cells as the released guide's own fill.sh prints them over the translation a928a2f60d11c53a… (all of the seat's roots in one cut). By AI agents, Wed Nov 11 2026. No macro, syntax, notation, axiom, sorry.
-/
import Derived.Test.YtklelhfgbjpifaaChecked
import GoSem.Claim
import GoSem.ClaimJoined
import GoSem.ClaimMapViews
import Derived.JoinedTies
import Derived.KernelRfl
namespace Go.Proofs.Ytklelhfgbjpifaa
/- THE CELL 'sum', in the pinned program and in every row, IS THE sha256 OF THE DUMP (.gsa) THAT YtklelhfgbjpifaaProg.lean LOADS. Nothing in Lean hashes anything: it is a label: what it is worth is what the hold of that sum in a sandbox is worth. -/
noncomputable def Try.pinned : Pinned := { name := "ytklelhfgbjpifaa", sum := "a928a2f60d11c53ada4efbe197b80e3b9bda73451cf7ad0ae4388615b5e4af82", checked := Try.checked }
namespace Rows
def none {H : Type} : Left H := { results := [], args := [] }

/-- 'onionskinlaw03.StorePlays': WHATEVER THE INPUT: true; the input reads as it did. -/
def storePlaysSpec : ChangeSpec := { name := "storePlays", fn := fun _ => fun
  | [d1, d2] => { results := [.lit (.bool true)], args := [d1, d2] }
  | _ => none }
def storePlaysRow : OpenClaim := { program := "ytklelhfgbjpifaa", sum := "a928a2f60d11c53ada4efbe197b80e3b9bda73451cf7ad0ae4388615b5e4af82", func := "onionskin/onionskinlaw03.StorePlays", spec := "storePlays", inPlace := ["maps.clone"], unfollowed := true, recurses := true, plainKeys := false, apart := false }
def StorePlaysSaid : Prop := storePlaysRow.holds Try.pinned (OpenSpec.ofChange storePlaysSpec)

/-- ITS FALSE NEIGHBOUR: 'it returns false'. Refute it at one input. -/
def storePlaysWrong : ChangeSpec := { name := "storePlays", fn := fun _ => fun
  | [d1, d2] => { results := [.lit (.bool false)], args := [d1, d2] }
  | _ => none }
def StorePlaysWrongFalsely : Prop := storePlaysRow.holds Try.pinned (OpenSpec.ofChange storePlaysWrong)

/-- 'onionskinlaw03.StoreKeeps': WHATEVER THE INPUT: true; the input reads as it did. -/
def storeKeepsSpec : ChangeSpec := { name := "storeKeeps", fn := fun _ => fun
  | [d1, d2] => { results := [.lit (.bool true)], args := [d1, d2] }
  | _ => none }
def storeKeepsRow : OpenClaim := { program := "ytklelhfgbjpifaa", sum := "a928a2f60d11c53ada4efbe197b80e3b9bda73451cf7ad0ae4388615b5e4af82", func := "onionskin/onionskinlaw03.StoreKeeps", spec := "storeKeeps", inPlace := ["maps.clone"], unfollowed := true, recurses := true, plainKeys := false, apart := false }
def StoreKeepsSaid : Prop := storeKeepsRow.holds Try.pinned (OpenSpec.ofChange storeKeepsSpec)

/-- ITS FALSE NEIGHBOUR: 'it returns false'. Refute it at one input. -/
def storeKeepsWrong : ChangeSpec := { name := "storeKeeps", fn := fun _ => fun
  | [d1, d2] => { results := [.lit (.bool false)], args := [d1, d2] }
  | _ => none }
def StoreKeepsWrongFalsely : Prop := storeKeepsRow.holds Try.pinned (OpenSpec.ofChange storeKeepsWrong)

/-- 'onionskinlaw03.StoreRoom': WHATEVER THE INPUT: true; the input reads as it did. -/
def storeRoomSpec : ChangeSpec := { name := "storeRoom", fn := fun _ => fun
  | [d1, d2] => { results := [.lit (.bool true)], args := [d1, d2] }
  | _ => none }
def storeRoomRow : OpenClaim := { program := "ytklelhfgbjpifaa", sum := "a928a2f60d11c53ada4efbe197b80e3b9bda73451cf7ad0ae4388615b5e4af82", func := "onionskin/onionskinlaw03.StoreRoom", spec := "storeRoom", inPlace := ["maps.clone"], unfollowed := true, recurses := true, plainKeys := false, apart := false }
def StoreRoomSaid : Prop := storeRoomRow.holds Try.pinned (OpenSpec.ofChange storeRoomSpec)

/-- ITS FALSE NEIGHBOUR: 'it returns false'. Refute it at one input. -/
def storeRoomWrong : ChangeSpec := { name := "storeRoom", fn := fun _ => fun
  | [d1, d2] => { results := [.lit (.bool false)], args := [d1, d2] }
  | _ => none }
def StoreRoomWrongFalsely : Prop := storeRoomRow.holds Try.pinned (OpenSpec.ofChange storeRoomWrong)

/-- 'onionskinlaw03.StoreCopy': WHATEVER THE INPUT: true; the input reads as it did. -/
def storeCopySpec : ChangeSpec := { name := "storeCopy", fn := fun _ => fun
  | [d1, d2, d3] => { results := [.lit (.bool true)], args := [d1, d2, d3] }
  | _ => none }
def storeCopyRow : OpenClaim := { program := "ytklelhfgbjpifaa", sum := "a928a2f60d11c53ada4efbe197b80e3b9bda73451cf7ad0ae4388615b5e4af82", func := "onionskin/onionskinlaw03.StoreCopy", spec := "storeCopy", inPlace := ["maps.clone"], unfollowed := true, recurses := true, plainKeys := false, apart := false }
def StoreCopySaid : Prop := storeCopyRow.holds Try.pinned (OpenSpec.ofChange storeCopySpec)

/-- ITS FALSE NEIGHBOUR: 'it returns false'. Refute it at one input. -/
def storeCopyWrong : ChangeSpec := { name := "storeCopy", fn := fun _ => fun
  | [d1, d2, d3] => { results := [.lit (.bool false)], args := [d1, d2, d3] }
  | _ => none }
def StoreCopyWrongFalsely : Prop := storeCopyRow.holds Try.pinned (OpenSpec.ofChange storeCopyWrong)

/-- 'onionskinlaw03.StoreTwice': WHATEVER THE INPUT: true; the input reads as it did. -/
def storeTwiceSpec : ChangeSpec := { name := "storeTwice", fn := fun _ => fun
  | [d1, d2] => { results := [.lit (.bool true)], args := [d1, d2] }
  | _ => none }
def storeTwiceRow : OpenClaim := { program := "ytklelhfgbjpifaa", sum := "a928a2f60d11c53ada4efbe197b80e3b9bda73451cf7ad0ae4388615b5e4af82", func := "onionskin/onionskinlaw03.StoreTwice", spec := "storeTwice", inPlace := ["maps.clone"], unfollowed := true, recurses := true, plainKeys := false, apart := false }
def StoreTwiceSaid : Prop := storeTwiceRow.holds Try.pinned (OpenSpec.ofChange storeTwiceSpec)

/-- ITS FALSE NEIGHBOUR: 'it returns false'. Refute it at one input. -/
def storeTwiceWrong : ChangeSpec := { name := "storeTwice", fn := fun _ => fun
  | [d1, d2] => { results := [.lit (.bool false)], args := [d1, d2] }
  | _ => none }
def StoreTwiceWrongFalsely : Prop := storeTwiceRow.holds Try.pinned (OpenSpec.ofChange storeTwiceWrong)

/-- 'onionskinlaw03.StoreOrder': WHATEVER THE INPUT: true; the input reads as it did. -/
def storeOrderSpec : ChangeSpec := { name := "storeOrder", fn := fun _ => fun
  | [d] => { results := [.lit (.bool true)], args := [d] }
  | _ => none }
def storeOrderRow : OpenClaim := { program := "ytklelhfgbjpifaa", sum := "a928a2f60d11c53ada4efbe197b80e3b9bda73451cf7ad0ae4388615b5e4af82", func := "onionskin/onionskinlaw03.StoreOrder", spec := "storeOrder", inPlace := ["maps.clone"], unfollowed := true, recurses := true, plainKeys := false, apart := false }
def StoreOrderSaid : Prop := storeOrderRow.holds Try.pinned (OpenSpec.ofChange storeOrderSpec)

/-- ITS FALSE NEIGHBOUR: 'it returns false'. Refute it at one input. -/
def storeOrderWrong : ChangeSpec := { name := "storeOrder", fn := fun _ => fun
  | [d] => { results := [.lit (.bool false)], args := [d] }
  | _ => none }
def StoreOrderWrongFalsely : Prop := storeOrderRow.holds Try.pinned (OpenSpec.ofChange storeOrderWrong)

/-- 'onionskinlaw04.BatchPlays': WHATEVER THE INPUT: true; the input reads as it did. -/
def batchPlaysSpec : ChangeSpec := { name := "batchPlays", fn := fun _ => fun
  | [d1, d2] => { results := [.lit (.bool true)], args := [d1, d2] }
  | _ => none }
def batchPlaysRow : OpenClaim := { program := "ytklelhfgbjpifaa", sum := "a928a2f60d11c53ada4efbe197b80e3b9bda73451cf7ad0ae4388615b5e4af82", func := "onionskin/onionskinlaw04.BatchPlays", spec := "batchPlays", unfollowed := true, recurses := true, plainKeys := false, apart := false }
def BatchPlaysSaid : Prop := batchPlaysRow.holds Try.pinned (OpenSpec.ofChange batchPlaysSpec)

/-- ITS FALSE NEIGHBOUR: 'it returns false'. Refute it at one input. -/
def batchPlaysWrong : ChangeSpec := { name := "batchPlays", fn := fun _ => fun
  | [d1, d2] => { results := [.lit (.bool false)], args := [d1, d2] }
  | _ => none }
def BatchPlaysWrongFalsely : Prop := batchPlaysRow.holds Try.pinned (OpenSpec.ofChange batchPlaysWrong)

/-- 'onionskinlaw04.BatchAll': WHATEVER THE INPUT: true; the input reads as it did. -/
def batchAllSpec : ChangeSpec := { name := "batchAll", fn := fun _ => fun
  | [d1, d2, d3, d4] => { results := [.lit (.bool true)], args := [d1, d2, d3, d4] }
  | _ => none }
def batchAllRow : OpenClaim := { program := "ytklelhfgbjpifaa", sum := "a928a2f60d11c53ada4efbe197b80e3b9bda73451cf7ad0ae4388615b5e4af82", func := "onionskin/onionskinlaw04.BatchAll", spec := "batchAll", unfollowed := true, recurses := true, plainKeys := false, apart := false }
def BatchAllSaid : Prop := batchAllRow.holds Try.pinned (OpenSpec.ofChange batchAllSpec)

/-- ITS FALSE NEIGHBOUR: 'it returns false'. Refute it at one input. -/
def batchAllWrong : ChangeSpec := { name := "batchAll", fn := fun _ => fun
  | [d1, d2, d3, d4] => { results := [.lit (.bool false)], args := [d1, d2, d3, d4] }
  | _ => none }
def BatchAllWrongFalsely : Prop := batchAllRow.holds Try.pinned (OpenSpec.ofChange batchAllWrong)

/-- 'onionskinlaw04.BatchStore': WHATEVER THE INPUT: true; the input reads as it did. -/
def batchStoreSpec : ChangeSpec := { name := "batchStore", fn := fun _ => fun
  | [d] => { results := [.lit (.bool true)], args := [d] }
  | _ => none }
def batchStoreRow : OpenClaim := { program := "ytklelhfgbjpifaa", sum := "a928a2f60d11c53ada4efbe197b80e3b9bda73451cf7ad0ae4388615b5e4af82", func := "onionskin/onionskinlaw04.BatchStore", spec := "batchStore", unfollowed := true, recurses := true, plainKeys := false, apart := false }
def BatchStoreSaid : Prop := batchStoreRow.holds Try.pinned (OpenSpec.ofChange batchStoreSpec)

/-- ITS FALSE NEIGHBOUR: 'it returns false'. Refute it at one input. -/
def batchStoreWrong : ChangeSpec := { name := "batchStore", fn := fun _ => fun
  | [d] => { results := [.lit (.bool false)], args := [d] }
  | _ => none }
def BatchStoreWrongFalsely : Prop := batchStoreRow.holds Try.pinned (OpenSpec.ofChange batchStoreWrong)

/-- 'onionskinlaw04.BatchFull': WHATEVER THE INPUT: true; the input reads as it did. -/
def batchFullSpec : ChangeSpec := { name := "batchFull", fn := fun _ => fun
  | [d1, d2, d3] => { results := [.lit (.bool true)], args := [d1, d2, d3] }
  | _ => none }
def batchFullRow : OpenClaim := { program := "ytklelhfgbjpifaa", sum := "a928a2f60d11c53ada4efbe197b80e3b9bda73451cf7ad0ae4388615b5e4af82", func := "onionskin/onionskinlaw04.BatchFull", spec := "batchFull", unfollowed := true, recurses := true, plainKeys := false, apart := false }
def BatchFullSaid : Prop := batchFullRow.holds Try.pinned (OpenSpec.ofChange batchFullSpec)

/-- ITS FALSE NEIGHBOUR: 'it returns false'. Refute it at one input. -/
def batchFullWrong : ChangeSpec := { name := "batchFull", fn := fun _ => fun
  | [d1, d2, d3] => { results := [.lit (.bool false)], args := [d1, d2, d3] }
  | _ => none }
def BatchFullWrongFalsely : Prop := batchFullRow.holds Try.pinned (OpenSpec.ofChange batchFullWrong)

/-- 'onionskinlaw04.BatchOver': WHATEVER THE INPUT: true; the input reads as it did. -/
def batchOverSpec : ChangeSpec := { name := "batchOver", fn := fun _ => fun
  | [d1, d2, d3] => { results := [.lit (.bool true)], args := [d1, d2, d3] }
  | _ => none }
def batchOverRow : OpenClaim := { program := "ytklelhfgbjpifaa", sum := "a928a2f60d11c53ada4efbe197b80e3b9bda73451cf7ad0ae4388615b5e4af82", func := "onionskin/onionskinlaw04.BatchOver", spec := "batchOver", unfollowed := true, recurses := true, plainKeys := false, apart := false }
def BatchOverSaid : Prop := batchOverRow.holds Try.pinned (OpenSpec.ofChange batchOverSpec)

/-- ITS FALSE NEIGHBOUR: 'it returns false'. Refute it at one input. -/
def batchOverWrong : ChangeSpec := { name := "batchOver", fn := fun _ => fun
  | [d1, d2, d3] => { results := [.lit (.bool false)], args := [d1, d2, d3] }
  | _ => none }
def BatchOverWrongFalsely : Prop := batchOverRow.holds Try.pinned (OpenSpec.ofChange batchOverWrong)

/- THE SECOND FORM. 'bulk': how many values and letters a reading holds, each counted each time it is reached (what is shared counts as often as it is met; a slice's spare places count too). A statement '..UptoSaid' is the law's where the arguments, and the package variables that the reading takes, are together of bulk at most 1048576: NARROWER than '..Said'. Prove '..Said' where nothing that the law and all that it calls make is longer than what came in: it says more and counts as full. Else prove '..UptoSaid'. A law counts once. -/
mutual
def uptoBulk {H : Type} : DataW H → Nat
  | .lit (.string bytes) => bytes.length + 1
  | .lit _ => 1
  | .nil => 1
  | .ptr d => uptoBulk d + 1
  | .slice elems spare => uptoBulkAll elems + uptoBulkAll spare + 1
  | .agg parts => uptoBulkAll parts + 1
  | .iface _ d => uptoBulk d + 1
  | .map entries => uptoBulkEntries entries + 1
  | .held _ => 1
def uptoBulkAll {H : Type} : List (DataW H) → Nat
  | [] => 0
  | d :: r => uptoBulk d + uptoBulkAll r
def uptoBulkEntries {H : Type} : List (Lit × DataW H) → Nat
  | [] => 0
  | x :: r => uptoBulkEntry x + uptoBulkEntries r
def uptoBulkEntry {H : Type} : Lit × DataW H → Nat
  | (.string bytes, d) => bytes.length + uptoBulk d + 1
  | (_, d) => uptoBulk d + 1
 end
def uptoSmall : (H : Type) → List (DataW H) → Bool := fun _ ds => decide (uptoBulkAll ds ≤ 1048576)
def OpenSpec.upto (s : _root_.Go.ChangeSpec) : _root_.Go.OpenSpec := { _root_.Go.OpenSpec.ofChange s with cond := some uptoSmall }

/-- 'onionskinlaw03.StorePlays', WHERE WHAT IT READS IS OF BULK AT MOST 1048576: true; the input reads as it did. -/
def storePlaysUptoRow : OpenClaim := { program := "ytklelhfgbjpifaa", sum := "a928a2f60d11c53ada4efbe197b80e3b9bda73451cf7ad0ae4388615b5e4af82", func := "onionskin/onionskinlaw03.StorePlays", spec := "storePlays", inPlace := ["maps.clone"], unfollowed := true, recurses := true, plainKeys := false, apart := false, narrowed := true }
def StorePlaysUptoSaid : Prop := storePlaysUptoRow.holds Try.pinned (OpenSpec.upto storePlaysSpec)

/-- 'onionskinlaw03.StoreKeeps', WHERE WHAT IT READS IS OF BULK AT MOST 1048576: true; the input reads as it did. -/
def storeKeepsUptoRow : OpenClaim := { program := "ytklelhfgbjpifaa", sum := "a928a2f60d11c53ada4efbe197b80e3b9bda73451cf7ad0ae4388615b5e4af82", func := "onionskin/onionskinlaw03.StoreKeeps", spec := "storeKeeps", inPlace := ["maps.clone"], unfollowed := true, recurses := true, plainKeys := false, apart := false, narrowed := true }
def StoreKeepsUptoSaid : Prop := storeKeepsUptoRow.holds Try.pinned (OpenSpec.upto storeKeepsSpec)

/-- 'onionskinlaw03.StoreRoom', WHERE WHAT IT READS IS OF BULK AT MOST 1048576: true; the input reads as it did. -/
def storeRoomUptoRow : OpenClaim := { program := "ytklelhfgbjpifaa", sum := "a928a2f60d11c53ada4efbe197b80e3b9bda73451cf7ad0ae4388615b5e4af82", func := "onionskin/onionskinlaw03.StoreRoom", spec := "storeRoom", inPlace := ["maps.clone"], unfollowed := true, recurses := true, plainKeys := false, apart := false, narrowed := true }
def StoreRoomUptoSaid : Prop := storeRoomUptoRow.holds Try.pinned (OpenSpec.upto storeRoomSpec)

/-- 'onionskinlaw03.StoreCopy', WHERE WHAT IT READS IS OF BULK AT MOST 1048576: true; the input reads as it did. -/
def storeCopyUptoRow : OpenClaim := { program := "ytklelhfgbjpifaa", sum := "a928a2f60d11c53ada4efbe197b80e3b9bda73451cf7ad0ae4388615b5e4af82", func := "onionskin/onionskinlaw03.StoreCopy", spec := "storeCopy", inPlace := ["maps.clone"], unfollowed := true, recurses := true, plainKeys := false, apart := false, narrowed := true }
def StoreCopyUptoSaid : Prop := storeCopyUptoRow.holds Try.pinned (OpenSpec.upto storeCopySpec)

/-- 'onionskinlaw03.StoreTwice', WHERE WHAT IT READS IS OF BULK AT MOST 1048576: true; the input reads as it did. -/
def storeTwiceUptoRow : OpenClaim := { program := "ytklelhfgbjpifaa", sum := "a928a2f60d11c53ada4efbe197b80e3b9bda73451cf7ad0ae4388615b5e4af82", func := "onionskin/onionskinlaw03.StoreTwice", spec := "storeTwice", inPlace := ["maps.clone"], unfollowed := true, recurses := true, plainKeys := false, apart := false, narrowed := true }
def StoreTwiceUptoSaid : Prop := storeTwiceUptoRow.holds Try.pinned (OpenSpec.upto storeTwiceSpec)

/-- 'onionskinlaw03.StoreOrder', WHERE WHAT IT READS IS OF BULK AT MOST 1048576: true; the input reads as it did. -/
def storeOrderUptoRow : OpenClaim := { program := "ytklelhfgbjpifaa", sum := "a928a2f60d11c53ada4efbe197b80e3b9bda73451cf7ad0ae4388615b5e4af82", func := "onionskin/onionskinlaw03.StoreOrder", spec := "storeOrder", inPlace := ["maps.clone"], unfollowed := true, recurses := true, plainKeys := false, apart := false, narrowed := true }
def StoreOrderUptoSaid : Prop := storeOrderUptoRow.holds Try.pinned (OpenSpec.upto storeOrderSpec)

/-- 'onionskinlaw04.BatchPlays', WHERE WHAT IT READS IS OF BULK AT MOST 1048576: true; the input reads as it did. -/
def batchPlaysUptoRow : OpenClaim := { program := "ytklelhfgbjpifaa", sum := "a928a2f60d11c53ada4efbe197b80e3b9bda73451cf7ad0ae4388615b5e4af82", func := "onionskin/onionskinlaw04.BatchPlays", spec := "batchPlays", unfollowed := true, recurses := true, plainKeys := false, apart := false, narrowed := true }
def BatchPlaysUptoSaid : Prop := batchPlaysUptoRow.holds Try.pinned (OpenSpec.upto batchPlaysSpec)

/-- 'onionskinlaw04.BatchAll', WHERE WHAT IT READS IS OF BULK AT MOST 1048576: true; the input reads as it did. -/
def batchAllUptoRow : OpenClaim := { program := "ytklelhfgbjpifaa", sum := "a928a2f60d11c53ada4efbe197b80e3b9bda73451cf7ad0ae4388615b5e4af82", func := "onionskin/onionskinlaw04.BatchAll", spec := "batchAll", unfollowed := true, recurses := true, plainKeys := false, apart := false, narrowed := true }
def BatchAllUptoSaid : Prop := batchAllUptoRow.holds Try.pinned (OpenSpec.upto batchAllSpec)

/-- 'onionskinlaw04.BatchStore', WHERE WHAT IT READS IS OF BULK AT MOST 1048576: true; the input reads as it did. -/
def batchStoreUptoRow : OpenClaim := { program := "ytklelhfgbjpifaa", sum := "a928a2f60d11c53ada4efbe197b80e3b9bda73451cf7ad0ae4388615b5e4af82", func := "onionskin/onionskinlaw04.BatchStore", spec := "batchStore", unfollowed := true, recurses := true, plainKeys := false, apart := false, narrowed := true }
def BatchStoreUptoSaid : Prop := batchStoreUptoRow.holds Try.pinned (OpenSpec.upto batchStoreSpec)

/-- 'onionskinlaw04.BatchFull', WHERE WHAT IT READS IS OF BULK AT MOST 1048576: true; the input reads as it did. -/
def batchFullUptoRow : OpenClaim := { program := "ytklelhfgbjpifaa", sum := "a928a2f60d11c53ada4efbe197b80e3b9bda73451cf7ad0ae4388615b5e4af82", func := "onionskin/onionskinlaw04.BatchFull", spec := "batchFull", unfollowed := true, recurses := true, plainKeys := false, apart := false, narrowed := true }
def BatchFullUptoSaid : Prop := batchFullUptoRow.holds Try.pinned (OpenSpec.upto batchFullSpec)

/-- 'onionskinlaw04.BatchOver', WHERE WHAT IT READS IS OF BULK AT MOST 1048576: true; the input reads as it did. -/
def batchOverUptoRow : OpenClaim := { program := "ytklelhfgbjpifaa", sum := "a928a2f60d11c53ada4efbe197b80e3b9bda73451cf7ad0ae4388615b5e4af82", func := "onionskin/onionskinlaw04.BatchOver", spec := "batchOver", unfollowed := true, recurses := true, plainKeys := false, apart := false, narrowed := true }
def BatchOverUptoSaid : Prop := batchOverUptoRow.holds Try.pinned (OpenSpec.upto batchOverSpec)

end Rows
end Go.Proofs.Ytklelhfgbjpifaa
