/-
  No cell of these rows narrows 'for every input' (looked for: loops, veiled, ifaces, maps, wideKeys, modest, calm, conditions, laid).
  DERIVED. THE GIVEN ROWS OF THIS SEAT. 11 by the template 'for every input the law returns true; each argument reads behind the call as it read before'; 0 by the template 'total and deterministic' (their statements: YtkdmdnihkhhpiaaTotals.lean).
  GIVEN WITH THE SEED: the statements are not yours to turn. If you find one false, say at which input.
  Laid BY PROGRAM, IN A SANDBOX (cutbox-rows.mjs): the forced cells as the released guide's own fill.sh prints them over the translation 879f795135941aca… (all of the seat's roots in one cut). By AI agents, Wed Nov 11 2026. No macro, syntax, notation, axiom, sorry.
-/
import Derived.Test.YtkdmdnihkhhpiaaChecked
import GoSem.Claim
import GoSem.ClaimJoined
import GoSem.ClaimMapViews
import Derived.JoinedTies
import Derived.KernelRfl
namespace Go.Proofs.Ytkdmdnihkhhpiaa
/- THE CELL 'sum', in the pinned program and in every row, IS THE sha256 OF THE DUMP (.gsa) THAT YtkdmdnihkhhpiaaProg.lean LOADS. Nothing in Lean hashes anything: it is a label: what it is worth is what the hold of that sum in a sandbox is worth. -/
noncomputable def Try.pinned : Pinned := { name := "ytkdmdnihkhhpiaa", sum := "879f795135941aca8d8e0aae3dd16da3e52610f27c5b6191326e009c79364630", checked := Try.checked }
namespace Rows
def none {H : Type} : Left H := { results := [], args := [] }

/-- 'weighbridgelaw03.CksumSums': WHATEVER THE INPUT: true; the input reads as it did. -/
def cksumSumsSpec : ChangeSpec := { name := "cksumSums", fn := fun _ => fun
  | [d1, d2, d3] => { results := [.lit (.bool true)], args := [d1, d2, d3] }
  | _ => none }
def cksumSumsRow : OpenClaim := { program := "ytkdmdnihkhhpiaa", sum := "879f795135941aca8d8e0aae3dd16da3e52610f27c5b6191326e009c79364630", func := "weighbridge/weighbridgelaw03.CksumSums", spec := "cksumSums", unfollowed := true, recurses := true, apart := false }
def CksumSumsSaid : Prop := cksumSumsRow.holds Try.pinned (OpenSpec.ofChange cksumSumsSpec)

/-- ITS FALSE NEIGHBOUR: 'it returns false'. Refute it at one input. -/
def cksumSumsWrong : ChangeSpec := { name := "cksumSums", fn := fun _ => fun
  | [d1, d2, d3] => { results := [.lit (.bool false)], args := [d1, d2, d3] }
  | _ => none }
def CksumSumsWrongFalsely : Prop := cksumSumsRow.holds Try.pinned (OpenSpec.ofChange cksumSumsWrong)

/-- 'weighbridgelaw03.CksumParts': WHATEVER THE INPUT: true; the input reads as it did. -/
def cksumPartsSpec : ChangeSpec := { name := "cksumParts", fn := fun _ => fun
  | [d1, d2] => { results := [.lit (.bool true)], args := [d1, d2] }
  | _ => none }
def cksumPartsRow : OpenClaim := { program := "ytkdmdnihkhhpiaa", sum := "879f795135941aca8d8e0aae3dd16da3e52610f27c5b6191326e009c79364630", func := "weighbridge/weighbridgelaw03.CksumParts", spec := "cksumParts", unfollowed := true, recurses := true, apart := false }
def CksumPartsSaid : Prop := cksumPartsRow.holds Try.pinned (OpenSpec.ofChange cksumPartsSpec)

/-- ITS FALSE NEIGHBOUR: 'it returns false'. Refute it at one input. -/
def cksumPartsWrong : ChangeSpec := { name := "cksumParts", fn := fun _ => fun
  | [d1, d2] => { results := [.lit (.bool false)], args := [d1, d2] }
  | _ => none }
def CksumPartsWrongFalsely : Prop := cksumPartsRow.holds Try.pinned (OpenSpec.ofChange cksumPartsWrong)

/-- 'weighbridgelaw03.CksumOrder': WHATEVER THE INPUT: true; the input reads as it did. -/
def cksumOrderSpec : ChangeSpec := { name := "cksumOrder", fn := fun _ => fun
  | [d1, d2, d3] => { results := [.lit (.bool true)], args := [d1, d2, d3] }
  | _ => none }
def cksumOrderRow : OpenClaim := { program := "ytkdmdnihkhhpiaa", sum := "879f795135941aca8d8e0aae3dd16da3e52610f27c5b6191326e009c79364630", func := "weighbridge/weighbridgelaw03.CksumOrder", spec := "cksumOrder", unfollowed := true, recurses := true, apart := false }
def CksumOrderSaid : Prop := cksumOrderRow.holds Try.pinned (OpenSpec.ofChange cksumOrderSpec)

/-- ITS FALSE NEIGHBOUR: 'it returns false'. Refute it at one input. -/
def cksumOrderWrong : ChangeSpec := { name := "cksumOrder", fn := fun _ => fun
  | [d1, d2, d3] => { results := [.lit (.bool false)], args := [d1, d2, d3] }
  | _ => none }
def CksumOrderWrongFalsely : Prop := cksumOrderRow.holds Try.pinned (OpenSpec.ofChange cksumOrderWrong)

/-- 'weighbridgelaw03.CksumFolds': WHATEVER THE INPUT: true; the input reads as it did. -/
def cksumFoldsSpec : ChangeSpec := { name := "cksumFolds", fn := fun _ => fun
  | [d] => { results := [.lit (.bool true)], args := [d] }
  | _ => none }
def cksumFoldsRow : OpenClaim := { program := "ytkdmdnihkhhpiaa", sum := "879f795135941aca8d8e0aae3dd16da3e52610f27c5b6191326e009c79364630", func := "weighbridge/weighbridgelaw03.CksumFolds", spec := "cksumFolds", unfollowed := true, recurses := true, apart := false }
def CksumFoldsSaid : Prop := cksumFoldsRow.holds Try.pinned (OpenSpec.ofChange cksumFoldsSpec)

/-- ITS FALSE NEIGHBOUR: 'it returns false'. Refute it at one input. -/
def cksumFoldsWrong : ChangeSpec := { name := "cksumFolds", fn := fun _ => fun
  | [d] => { results := [.lit (.bool false)], args := [d] }
  | _ => none }
def CksumFoldsWrongFalsely : Prop := cksumFoldsRow.holds Try.pinned (OpenSpec.ofChange cksumFoldsWrong)

/-- 'weighbridgelaw03.CksumWords': WHATEVER THE INPUT: true; the input reads as it did. -/
def cksumWordsSpec : ChangeSpec := { name := "cksumWords", fn := fun _ => fun
  | [d1, d2] => { results := [.lit (.bool true)], args := [d1, d2] }
  | _ => none }
def cksumWordsRow : OpenClaim := { program := "ytkdmdnihkhhpiaa", sum := "879f795135941aca8d8e0aae3dd16da3e52610f27c5b6191326e009c79364630", func := "weighbridge/weighbridgelaw03.CksumWords", spec := "cksumWords", unfollowed := true, recurses := true, apart := false }
def CksumWordsSaid : Prop := cksumWordsRow.holds Try.pinned (OpenSpec.ofChange cksumWordsSpec)

/-- ITS FALSE NEIGHBOUR: 'it returns false'. Refute it at one input. -/
def cksumWordsWrong : ChangeSpec := { name := "cksumWords", fn := fun _ => fun
  | [d1, d2] => { results := [.lit (.bool false)], args := [d1, d2] }
  | _ => none }
def CksumWordsWrongFalsely : Prop := cksumWordsRow.holds Try.pinned (OpenSpec.ofChange cksumWordsWrong)

/-- 'weighbridgelaw01.OctetNumbers': WHATEVER THE INPUT: true; the input reads as it did. -/
def octetNumbersSpec : ChangeSpec := { name := "octetNumbers", fn := fun _ => fun
  | [d1, d2, d3, d4] => { results := [.lit (.bool true)], args := [d1, d2, d3, d4] }
  | _ => none }
def octetNumbersRow : OpenClaim := { program := "ytkdmdnihkhhpiaa", sum := "879f795135941aca8d8e0aae3dd16da3e52610f27c5b6191326e009c79364630", func := "weighbridge/weighbridgelaw01.OctetNumbers", spec := "octetNumbers", unfollowed := true, recurses := true, apart := false }
def OctetNumbersSaid : Prop := octetNumbersRow.holds Try.pinned (OpenSpec.ofChange octetNumbersSpec)

/-- ITS FALSE NEIGHBOUR: 'it returns false'. Refute it at one input. -/
def octetNumbersWrong : ChangeSpec := { name := "octetNumbers", fn := fun _ => fun
  | [d1, d2, d3, d4] => { results := [.lit (.bool false)], args := [d1, d2, d3, d4] }
  | _ => none }
def OctetNumbersWrongFalsely : Prop := octetNumbersRow.holds Try.pinned (OpenSpec.ofChange octetNumbersWrong)

/-- 'weighbridgelaw01.OctetSizes': WHATEVER THE INPUT: true; the input reads as it did. -/
def octetSizesSpec : ChangeSpec := { name := "octetSizes", fn := fun _ => fun
  | [d1, d2] => { results := [.lit (.bool true)], args := [d1, d2] }
  | _ => none }
def octetSizesRow : OpenClaim := { program := "ytkdmdnihkhhpiaa", sum := "879f795135941aca8d8e0aae3dd16da3e52610f27c5b6191326e009c79364630", func := "weighbridge/weighbridgelaw01.OctetSizes", spec := "octetSizes", unfollowed := true, recurses := true, apart := false }
def OctetSizesSaid : Prop := octetSizesRow.holds Try.pinned (OpenSpec.ofChange octetSizesSpec)

/-- ITS FALSE NEIGHBOUR: 'it returns false'. Refute it at one input. -/
def octetSizesWrong : ChangeSpec := { name := "octetSizes", fn := fun _ => fun
  | [d1, d2] => { results := [.lit (.bool false)], args := [d1, d2] }
  | _ => none }
def OctetSizesWrongFalsely : Prop := octetSizesRow.holds Try.pinned (OpenSpec.ofChange octetSizesWrong)

/-- 'weighbridgelaw01.OctetEnds': WHATEVER THE INPUT: true; the input reads as it did. -/
def octetEndsSpec : ChangeSpec := { name := "octetEnds", fn := fun _ => fun
  | [d1, d2, d3] => { results := [.lit (.bool true)], args := [d1, d2, d3] }
  | _ => none }
def octetEndsRow : OpenClaim := { program := "ytkdmdnihkhhpiaa", sum := "879f795135941aca8d8e0aae3dd16da3e52610f27c5b6191326e009c79364630", func := "weighbridge/weighbridgelaw01.OctetEnds", spec := "octetEnds", unfollowed := true, recurses := true, apart := false }
def OctetEndsSaid : Prop := octetEndsRow.holds Try.pinned (OpenSpec.ofChange octetEndsSpec)

/-- ITS FALSE NEIGHBOUR: 'it returns false'. Refute it at one input. -/
def octetEndsWrong : ChangeSpec := { name := "octetEnds", fn := fun _ => fun
  | [d1, d2, d3] => { results := [.lit (.bool false)], args := [d1, d2, d3] }
  | _ => none }
def OctetEndsWrongFalsely : Prop := octetEndsRow.holds Try.pinned (OpenSpec.ofChange octetEndsWrong)

/-- 'weighbridgelaw01.OctetPlaces': WHATEVER THE INPUT: true; the input reads as it did. -/
def octetPlacesSpec : ChangeSpec := { name := "octetPlaces", fn := fun _ => fun
  | [d1, d2, d3, d4] => { results := [.lit (.bool true)], args := [d1, d2, d3, d4] }
  | _ => none }
def octetPlacesRow : OpenClaim := { program := "ytkdmdnihkhhpiaa", sum := "879f795135941aca8d8e0aae3dd16da3e52610f27c5b6191326e009c79364630", func := "weighbridge/weighbridgelaw01.OctetPlaces", spec := "octetPlaces", unfollowed := true, recurses := true, apart := false }
def OctetPlacesSaid : Prop := octetPlacesRow.holds Try.pinned (OpenSpec.ofChange octetPlacesSpec)

/-- ITS FALSE NEIGHBOUR: 'it returns false'. Refute it at one input. -/
def octetPlacesWrong : ChangeSpec := { name := "octetPlaces", fn := fun _ => fun
  | [d1, d2, d3, d4] => { results := [.lit (.bool false)], args := [d1, d2, d3, d4] }
  | _ => none }
def OctetPlacesWrongFalsely : Prop := octetPlacesRow.holds Try.pinned (OpenSpec.ofChange octetPlacesWrong)

/-- 'weighbridgelaw03.CksumUpdates': WHATEVER THE INPUT: true; the input reads as it did. -/
def cksumUpdatesSpec : ChangeSpec := { name := "cksumUpdates", fn := fun _ => fun
  | [d1, d2, d3, d4, d5] => { results := [.lit (.bool true)], args := [d1, d2, d3, d4, d5] }
  | _ => none }
def cksumUpdatesRow : OpenClaim := { program := "ytkdmdnihkhhpiaa", sum := "879f795135941aca8d8e0aae3dd16da3e52610f27c5b6191326e009c79364630", func := "weighbridge/weighbridgelaw03.CksumUpdates", spec := "cksumUpdates", unfollowed := true, recurses := true, apart := false }
def CksumUpdatesSaid : Prop := cksumUpdatesRow.holds Try.pinned (OpenSpec.ofChange cksumUpdatesSpec)

/-- ITS FALSE NEIGHBOUR: 'it returns false'. Refute it at one input. -/
def cksumUpdatesWrong : ChangeSpec := { name := "cksumUpdates", fn := fun _ => fun
  | [d1, d2, d3, d4, d5] => { results := [.lit (.bool false)], args := [d1, d2, d3, d4, d5] }
  | _ => none }
def CksumUpdatesWrongFalsely : Prop := cksumUpdatesRow.holds Try.pinned (OpenSpec.ofChange cksumUpdatesWrong)

/-- 'weighbridgelaw03.CksumChanges': WHATEVER THE INPUT: true; the input reads as it did. -/
def cksumChangesSpec : ChangeSpec := { name := "cksumChanges", fn := fun _ => fun
  | [d1, d2, d3] => { results := [.lit (.bool true)], args := [d1, d2, d3] }
  | _ => none }
def cksumChangesRow : OpenClaim := { program := "ytkdmdnihkhhpiaa", sum := "879f795135941aca8d8e0aae3dd16da3e52610f27c5b6191326e009c79364630", func := "weighbridge/weighbridgelaw03.CksumChanges", spec := "cksumChanges", unfollowed := true, recurses := true, apart := false }
def CksumChangesSaid : Prop := cksumChangesRow.holds Try.pinned (OpenSpec.ofChange cksumChangesSpec)

/-- ITS FALSE NEIGHBOUR: 'it returns false'. Refute it at one input. -/
def cksumChangesWrong : ChangeSpec := { name := "cksumChanges", fn := fun _ => fun
  | [d1, d2, d3] => { results := [.lit (.bool false)], args := [d1, d2, d3] }
  | _ => none }
def CksumChangesWrongFalsely : Prop := cksumChangesRow.holds Try.pinned (OpenSpec.ofChange cksumChangesWrong)

/- THE SECOND FORM. 'bulk': how many values and letters a reading holds, each counted each time it is reached (what is shared counts as often as it is met; a slice's spare places count too). A statement '..UptoSaid' is the law's where the arguments, and the package variables that the reading takes, are together of bulk at most 1048576: NARROWER than '..Said'. Prove '..Said' where nothing that the law and all that it calls make is longer than what came in: it says more and counts as full. Else prove '..UptoSaid'. A law counts once. -/
mutual
def uptoBulk {H : Type} : DataW H → Nat
  | .lit (.string bytes) => bytes.length + 1
  | .lit _ => 1
  | .nil => 1
  | .ptr d => uptoBulk d + 1
  | .slice elems spare => uptoBulkAll elems + uptoBulkAll spare + 1
  | .agg parts => uptoBulkAll parts + 1
  | .iface _ d => uptoBulk d + 1
  | .map entries => uptoBulkEntries entries + 1
  | .held _ => 1
def uptoBulkAll {H : Type} : List (DataW H) → Nat
  | [] => 0
  | d :: r => uptoBulk d + uptoBulkAll r
def uptoBulkEntries {H : Type} : List (Lit × DataW H) → Nat
  | [] => 0
  | x :: r => uptoBulkEntry x + uptoBulkEntries r
def uptoBulkEntry {H : Type} : Lit × DataW H → Nat
  | (.string bytes, d) => bytes.length + uptoBulk d + 1
  | (_, d) => uptoBulk d + 1
 end
def uptoSmall : (H : Type) → List (DataW H) → Bool := fun _ ds => decide (uptoBulkAll ds ≤ 1048576)
def OpenSpec.upto (s : _root_.Go.ChangeSpec) : _root_.Go.OpenSpec := { _root_.Go.OpenSpec.ofChange s with cond := some uptoSmall }

/-- 'weighbridgelaw03.CksumSums', WHERE WHAT IT READS IS OF BULK AT MOST 1048576: true; the input reads as it did. -/
def cksumSumsUptoRow : OpenClaim := { program := "ytkdmdnihkhhpiaa", sum := "879f795135941aca8d8e0aae3dd16da3e52610f27c5b6191326e009c79364630", func := "weighbridge/weighbridgelaw03.CksumSums", spec := "cksumSums", unfollowed := true, recurses := true, apart := false, narrowed := true }
def CksumSumsUptoSaid : Prop := cksumSumsUptoRow.holds Try.pinned (OpenSpec.upto cksumSumsSpec)

/-- 'weighbridgelaw03.CksumParts', WHERE WHAT IT READS IS OF BULK AT MOST 1048576: true; the input reads as it did. -/
def cksumPartsUptoRow : OpenClaim := { program := "ytkdmdnihkhhpiaa", sum := "879f795135941aca8d8e0aae3dd16da3e52610f27c5b6191326e009c79364630", func := "weighbridge/weighbridgelaw03.CksumParts", spec := "cksumParts", unfollowed := true, recurses := true, apart := false, narrowed := true }
def CksumPartsUptoSaid : Prop := cksumPartsUptoRow.holds Try.pinned (OpenSpec.upto cksumPartsSpec)

/-- 'weighbridgelaw03.CksumOrder', WHERE WHAT IT READS IS OF BULK AT MOST 1048576: true; the input reads as it did. -/
def cksumOrderUptoRow : OpenClaim := { program := "ytkdmdnihkhhpiaa", sum := "879f795135941aca8d8e0aae3dd16da3e52610f27c5b6191326e009c79364630", func := "weighbridge/weighbridgelaw03.CksumOrder", spec := "cksumOrder", unfollowed := true, recurses := true, apart := false, narrowed := true }
def CksumOrderUptoSaid : Prop := cksumOrderUptoRow.holds Try.pinned (OpenSpec.upto cksumOrderSpec)

/-- 'weighbridgelaw03.CksumFolds', WHERE WHAT IT READS IS OF BULK AT MOST 1048576: true; the input reads as it did. -/
def cksumFoldsUptoRow : OpenClaim := { program := "ytkdmdnihkhhpiaa", sum := "879f795135941aca8d8e0aae3dd16da3e52610f27c5b6191326e009c79364630", func := "weighbridge/weighbridgelaw03.CksumFolds", spec := "cksumFolds", unfollowed := true, recurses := true, apart := false, narrowed := true }
def CksumFoldsUptoSaid : Prop := cksumFoldsUptoRow.holds Try.pinned (OpenSpec.upto cksumFoldsSpec)

/-- 'weighbridgelaw03.CksumWords', WHERE WHAT IT READS IS OF BULK AT MOST 1048576: true; the input reads as it did. -/
def cksumWordsUptoRow : OpenClaim := { program := "ytkdmdnihkhhpiaa", sum := "879f795135941aca8d8e0aae3dd16da3e52610f27c5b6191326e009c79364630", func := "weighbridge/weighbridgelaw03.CksumWords", spec := "cksumWords", unfollowed := true, recurses := true, apart := false, narrowed := true }
def CksumWordsUptoSaid : Prop := cksumWordsUptoRow.holds Try.pinned (OpenSpec.upto cksumWordsSpec)

/-- 'weighbridgelaw01.OctetNumbers', WHERE WHAT IT READS IS OF BULK AT MOST 1048576: true; the input reads as it did. -/
def octetNumbersUptoRow : OpenClaim := { program := "ytkdmdnihkhhpiaa", sum := "879f795135941aca8d8e0aae3dd16da3e52610f27c5b6191326e009c79364630", func := "weighbridge/weighbridgelaw01.OctetNumbers", spec := "octetNumbers", unfollowed := true, recurses := true, apart := false, narrowed := true }
def OctetNumbersUptoSaid : Prop := octetNumbersUptoRow.holds Try.pinned (OpenSpec.upto octetNumbersSpec)

/-- 'weighbridgelaw01.OctetSizes', WHERE WHAT IT READS IS OF BULK AT MOST 1048576: true; the input reads as it did. -/
def octetSizesUptoRow : OpenClaim := { program := "ytkdmdnihkhhpiaa", sum := "879f795135941aca8d8e0aae3dd16da3e52610f27c5b6191326e009c79364630", func := "weighbridge/weighbridgelaw01.OctetSizes", spec := "octetSizes", unfollowed := true, recurses := true, apart := false, narrowed := true }
def OctetSizesUptoSaid : Prop := octetSizesUptoRow.holds Try.pinned (OpenSpec.upto octetSizesSpec)

/-- 'weighbridgelaw01.OctetEnds', WHERE WHAT IT READS IS OF BULK AT MOST 1048576: true; the input reads as it did. -/
def octetEndsUptoRow : OpenClaim := { program := "ytkdmdnihkhhpiaa", sum := "879f795135941aca8d8e0aae3dd16da3e52610f27c5b6191326e009c79364630", func := "weighbridge/weighbridgelaw01.OctetEnds", spec := "octetEnds", unfollowed := true, recurses := true, apart := false, narrowed := true }
def OctetEndsUptoSaid : Prop := octetEndsUptoRow.holds Try.pinned (OpenSpec.upto octetEndsSpec)

/-- 'weighbridgelaw01.OctetPlaces', WHERE WHAT IT READS IS OF BULK AT MOST 1048576: true; the input reads as it did. -/
def octetPlacesUptoRow : OpenClaim := { program := "ytkdmdnihkhhpiaa", sum := "879f795135941aca8d8e0aae3dd16da3e52610f27c5b6191326e009c79364630", func := "weighbridge/weighbridgelaw01.OctetPlaces", spec := "octetPlaces", unfollowed := true, recurses := true, apart := false, narrowed := true }
def OctetPlacesUptoSaid : Prop := octetPlacesUptoRow.holds Try.pinned (OpenSpec.upto octetPlacesSpec)

/-- 'weighbridgelaw03.CksumUpdates', WHERE WHAT IT READS IS OF BULK AT MOST 1048576: true; the input reads as it did. -/
def cksumUpdatesUptoRow : OpenClaim := { program := "ytkdmdnihkhhpiaa", sum := "879f795135941aca8d8e0aae3dd16da3e52610f27c5b6191326e009c79364630", func := "weighbridge/weighbridgelaw03.CksumUpdates", spec := "cksumUpdates", unfollowed := true, recurses := true, apart := false, narrowed := true }
def CksumUpdatesUptoSaid : Prop := cksumUpdatesUptoRow.holds Try.pinned (OpenSpec.upto cksumUpdatesSpec)

/-- 'weighbridgelaw03.CksumChanges', WHERE WHAT IT READS IS OF BULK AT MOST 1048576: true; the input reads as it did. -/
def cksumChangesUptoRow : OpenClaim := { program := "ytkdmdnihkhhpiaa", sum := "879f795135941aca8d8e0aae3dd16da3e52610f27c5b6191326e009c79364630", func := "weighbridge/weighbridgelaw03.CksumChanges", spec := "cksumChanges", unfollowed := true, recurses := true, apart := false, narrowed := true }
def CksumChangesUptoSaid : Prop := cksumChangesUptoRow.holds Try.pinned (OpenSpec.upto cksumChangesSpec)

end Rows
end Go.Proofs.Ytkdmdnihkhhpiaa
