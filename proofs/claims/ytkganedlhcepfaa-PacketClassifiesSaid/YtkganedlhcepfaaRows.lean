/-
  No cell of these rows narrows 'for every input' (looked for: loops, veiled, ifaces, maps, wideKeys, modest, calm, conditions, laid).
  DERIVED. THE GIVEN ROWS OF THIS SEAT. 6 by the template 'for every input the law returns true; each argument reads behind the call as it read before'; 0 by the template 'total and deterministic' (their statements: YtkganedlhcepfaaTotals.lean).
  GIVEN WITH THE SEED: the statements are not yours to turn. If you find one false, say at which input.
  Laid BY PROGRAM, IN A SANDBOX (cutbox-rows.mjs): the forced cells as the released guide's own fill.sh prints them over the translation 9759bbecd1d42580… (all of the seat's roots in one cut). By AI agents, Wed Nov 11 2026. No macro, syntax, notation, axiom, sorry.
-/
import Derived.Test.YtkganedlhcepfaaChecked
import GoSem.Claim
import GoSem.ClaimJoined
import GoSem.ClaimMapViews
import Derived.JoinedTies
import Derived.KernelRfl
namespace Go.Proofs.Ytkganedlhcepfaa
/- THE CELL 'sum', in the pinned program and in every row, IS THE sha256 OF THE DUMP (.gsa) THAT YtkganedlhcepfaaProg.lean LOADS. Nothing in Lean hashes anything: it is a label: what it is worth is what the hold of that sum in a sandbox is worth. -/
noncomputable def Try.pinned : Pinned := { name := "ytkganedlhcepfaa", sum := "9759bbecd1d425807a2040df6680b25d53574a47f2fe7c31dbd7b333c0488d46", checked := Try.checked }
namespace Rows
def none {H : Type} : Left H := { results := [], args := [] }

/-- 'weighbridgelaw09.PacketClassifies': WHATEVER THE INPUT: true; the input reads as it did. -/
def packetClassifiesSpec : ChangeSpec := { name := "packetClassifies", fn := fun _ => fun
  | [d1, d2, d3, d4, d5, d6] => { results := [.lit (.bool true)], args := [d1, d2, d3, d4, d5, d6] }
  | _ => none }
def packetClassifiesRow : OpenClaim := { program := "ytkganedlhcepfaa", sum := "9759bbecd1d425807a2040df6680b25d53574a47f2fe7c31dbd7b333c0488d46", func := "weighbridge/weighbridgelaw09.PacketClassifies", spec := "packetClassifies", unfollowed := true, recurses := true, apart := false }
def PacketClassifiesSaid : Prop := packetClassifiesRow.holds Try.pinned (OpenSpec.ofChange packetClassifiesSpec)

/-- ITS FALSE NEIGHBOUR: 'it returns false'. Refute it at one input. -/
def packetClassifiesWrong : ChangeSpec := { name := "packetClassifies", fn := fun _ => fun
  | [d1, d2, d3, d4, d5, d6] => { results := [.lit (.bool false)], args := [d1, d2, d3, d4, d5, d6] }
  | _ => none }
def PacketClassifiesWrongFalsely : Prop := packetClassifiesRow.holds Try.pinned (OpenSpec.ofChange packetClassifiesWrong)

/-- 'weighbridgelaw09.PacketTells': WHATEVER THE INPUT: true; the input reads as it did. -/
def packetTellsSpec : ChangeSpec := { name := "packetTells", fn := fun _ => fun
  | [d1, d2] => { results := [.lit (.bool true)], args := [d1, d2] }
  | _ => none }
def packetTellsRow : OpenClaim := { program := "ytkganedlhcepfaa", sum := "9759bbecd1d425807a2040df6680b25d53574a47f2fe7c31dbd7b333c0488d46", func := "weighbridge/weighbridgelaw09.PacketTells", spec := "packetTells", unfollowed := true, recurses := true, apart := false }
def PacketTellsSaid : Prop := packetTellsRow.holds Try.pinned (OpenSpec.ofChange packetTellsSpec)

/-- ITS FALSE NEIGHBOUR: 'it returns false'. Refute it at one input. -/
def packetTellsWrong : ChangeSpec := { name := "packetTells", fn := fun _ => fun
  | [d1, d2] => { results := [.lit (.bool false)], args := [d1, d2] }
  | _ => none }
def PacketTellsWrongFalsely : Prop := packetTellsRow.holds Try.pinned (OpenSpec.ofChange packetTellsWrong)

/-- 'weighbridgelaw09.PacketParts': WHATEVER THE INPUT: true; the input reads as it did. -/
def packetPartsSpec : ChangeSpec := { name := "packetParts", fn := fun _ => fun
  | [d1, d2, d3] => { results := [.lit (.bool true)], args := [d1, d2, d3] }
  | _ => none }
def packetPartsRow : OpenClaim := { program := "ytkganedlhcepfaa", sum := "9759bbecd1d425807a2040df6680b25d53574a47f2fe7c31dbd7b333c0488d46", func := "weighbridge/weighbridgelaw09.PacketParts", spec := "packetParts", unfollowed := true, recurses := true, apart := false }
def PacketPartsSaid : Prop := packetPartsRow.holds Try.pinned (OpenSpec.ofChange packetPartsSpec)

/-- ITS FALSE NEIGHBOUR: 'it returns false'. Refute it at one input. -/
def packetPartsWrong : ChangeSpec := { name := "packetParts", fn := fun _ => fun
  | [d1, d2, d3] => { results := [.lit (.bool false)], args := [d1, d2, d3] }
  | _ => none }
def PacketPartsWrongFalsely : Prop := packetPartsRow.holds Try.pinned (OpenSpec.ofChange packetPartsWrong)

/-- 'weighbridgelaw09.PacketSums': WHATEVER THE INPUT: true; the input reads as it did. -/
def packetSumsSpec : ChangeSpec := { name := "packetSums", fn := fun _ => fun
  | [d1, d2] => { results := [.lit (.bool true)], args := [d1, d2] }
  | _ => none }
def packetSumsRow : OpenClaim := { program := "ytkganedlhcepfaa", sum := "9759bbecd1d425807a2040df6680b25d53574a47f2fe7c31dbd7b333c0488d46", func := "weighbridge/weighbridgelaw09.PacketSums", spec := "packetSums", unfollowed := true, recurses := true, apart := false }
def PacketSumsSaid : Prop := packetSumsRow.holds Try.pinned (OpenSpec.ofChange packetSumsSpec)

/-- ITS FALSE NEIGHBOUR: 'it returns false'. Refute it at one input. -/
def packetSumsWrong : ChangeSpec := { name := "packetSums", fn := fun _ => fun
  | [d1, d2] => { results := [.lit (.bool false)], args := [d1, d2] }
  | _ => none }
def PacketSumsWrongFalsely : Prop := packetSumsRow.holds Try.pinned (OpenSpec.ofChange packetSumsWrong)

/-- 'weighbridgelaw09.PacketKeys': WHATEVER THE INPUT: true; the input reads as it did. -/
def packetKeysSpec : ChangeSpec := { name := "packetKeys", fn := fun _ => fun
  | [d] => { results := [.lit (.bool true)], args := [d] }
  | _ => none }
def packetKeysRow : OpenClaim := { program := "ytkganedlhcepfaa", sum := "9759bbecd1d425807a2040df6680b25d53574a47f2fe7c31dbd7b333c0488d46", func := "weighbridge/weighbridgelaw09.PacketKeys", spec := "packetKeys", unfollowed := true, recurses := true, apart := false }
def PacketKeysSaid : Prop := packetKeysRow.holds Try.pinned (OpenSpec.ofChange packetKeysSpec)

/-- ITS FALSE NEIGHBOUR: 'it returns false'. Refute it at one input. -/
def packetKeysWrong : ChangeSpec := { name := "packetKeys", fn := fun _ => fun
  | [d] => { results := [.lit (.bool false)], args := [d] }
  | _ => none }
def PacketKeysWrongFalsely : Prop := packetKeysRow.holds Try.pinned (OpenSpec.ofChange packetKeysWrong)

/-- 'weighbridgelaw09.PacketBack': WHATEVER THE INPUT: true; the input reads as it did. -/
def packetBackSpec : ChangeSpec := { name := "packetBack", fn := fun _ => fun
  | [d1, d2] => { results := [.lit (.bool true)], args := [d1, d2] }
  | _ => none }
def packetBackRow : OpenClaim := { program := "ytkganedlhcepfaa", sum := "9759bbecd1d425807a2040df6680b25d53574a47f2fe7c31dbd7b333c0488d46", func := "weighbridge/weighbridgelaw09.PacketBack", spec := "packetBack", unfollowed := true, recurses := true, apart := false }
def PacketBackSaid : Prop := packetBackRow.holds Try.pinned (OpenSpec.ofChange packetBackSpec)

/-- ITS FALSE NEIGHBOUR: 'it returns false'. Refute it at one input. -/
def packetBackWrong : ChangeSpec := { name := "packetBack", fn := fun _ => fun
  | [d1, d2] => { results := [.lit (.bool false)], args := [d1, d2] }
  | _ => none }
def PacketBackWrongFalsely : Prop := packetBackRow.holds Try.pinned (OpenSpec.ofChange packetBackWrong)

/- THE SECOND FORM. 'bulk': how many values and letters a reading holds, each counted each time it is reached (what is shared counts as often as it is met; a slice's spare places count too). A statement '..UptoSaid' is the law's where the arguments, and the package variables that the reading takes, are together of bulk at most 1048576: NARROWER than '..Said'. Prove '..Said' where nothing that the law and all that it calls make is longer than what came in: it says more and counts as full. Else prove '..UptoSaid'. A law counts once. -/
mutual
def uptoBulk {H : Type} : DataW H → Nat
  | .lit (.string bytes) => bytes.length + 1
  | .lit _ => 1
  | .nil => 1
  | .ptr d => uptoBulk d + 1
  | .slice elems spare => uptoBulkAll elems + uptoBulkAll spare + 1
  | .agg parts => uptoBulkAll parts + 1
  | .iface _ d => uptoBulk d + 1
  | .map entries => uptoBulkEntries entries + 1
  | .held _ => 1
def uptoBulkAll {H : Type} : List (DataW H) → Nat
  | [] => 0
  | d :: r => uptoBulk d + uptoBulkAll r
def uptoBulkEntries {H : Type} : List (Lit × DataW H) → Nat
  | [] => 0
  | x :: r => uptoBulkEntry x + uptoBulkEntries r
def uptoBulkEntry {H : Type} : Lit × DataW H → Nat
  | (.string bytes, d) => bytes.length + uptoBulk d + 1
  | (_, d) => uptoBulk d + 1
 end
def uptoSmall : (H : Type) → List (DataW H) → Bool := fun _ ds => decide (uptoBulkAll ds ≤ 1048576)
def OpenSpec.upto (s : _root_.Go.ChangeSpec) : _root_.Go.OpenSpec := { _root_.Go.OpenSpec.ofChange s with cond := some uptoSmall }

/-- 'weighbridgelaw09.PacketClassifies', WHERE WHAT IT READS IS OF BULK AT MOST 1048576: true; the input reads as it did. -/
def packetClassifiesUptoRow : OpenClaim := { program := "ytkganedlhcepfaa", sum := "9759bbecd1d425807a2040df6680b25d53574a47f2fe7c31dbd7b333c0488d46", func := "weighbridge/weighbridgelaw09.PacketClassifies", spec := "packetClassifies", unfollowed := true, recurses := true, apart := false, narrowed := true }
def PacketClassifiesUptoSaid : Prop := packetClassifiesUptoRow.holds Try.pinned (OpenSpec.upto packetClassifiesSpec)

/-- 'weighbridgelaw09.PacketTells', WHERE WHAT IT READS IS OF BULK AT MOST 1048576: true; the input reads as it did. -/
def packetTellsUptoRow : OpenClaim := { program := "ytkganedlhcepfaa", sum := "9759bbecd1d425807a2040df6680b25d53574a47f2fe7c31dbd7b333c0488d46", func := "weighbridge/weighbridgelaw09.PacketTells", spec := "packetTells", unfollowed := true, recurses := true, apart := false, narrowed := true }
def PacketTellsUptoSaid : Prop := packetTellsUptoRow.holds Try.pinned (OpenSpec.upto packetTellsSpec)

/-- 'weighbridgelaw09.PacketParts', WHERE WHAT IT READS IS OF BULK AT MOST 1048576: true; the input reads as it did. -/
def packetPartsUptoRow : OpenClaim := { program := "ytkganedlhcepfaa", sum := "9759bbecd1d425807a2040df6680b25d53574a47f2fe7c31dbd7b333c0488d46", func := "weighbridge/weighbridgelaw09.PacketParts", spec := "packetParts", unfollowed := true, recurses := true, apart := false, narrowed := true }
def PacketPartsUptoSaid : Prop := packetPartsUptoRow.holds Try.pinned (OpenSpec.upto packetPartsSpec)

/-- 'weighbridgelaw09.PacketSums', WHERE WHAT IT READS IS OF BULK AT MOST 1048576: true; the input reads as it did. -/
def packetSumsUptoRow : OpenClaim := { program := "ytkganedlhcepfaa", sum := "9759bbecd1d425807a2040df6680b25d53574a47f2fe7c31dbd7b333c0488d46", func := "weighbridge/weighbridgelaw09.PacketSums", spec := "packetSums", unfollowed := true, recurses := true, apart := false, narrowed := true }
def PacketSumsUptoSaid : Prop := packetSumsUptoRow.holds Try.pinned (OpenSpec.upto packetSumsSpec)

/-- 'weighbridgelaw09.PacketKeys', WHERE WHAT IT READS IS OF BULK AT MOST 1048576: true; the input reads as it did. -/
def packetKeysUptoRow : OpenClaim := { program := "ytkganedlhcepfaa", sum := "9759bbecd1d425807a2040df6680b25d53574a47f2fe7c31dbd7b333c0488d46", func := "weighbridge/weighbridgelaw09.PacketKeys", spec := "packetKeys", unfollowed := true, recurses := true, apart := false, narrowed := true }
def PacketKeysUptoSaid : Prop := packetKeysUptoRow.holds Try.pinned (OpenSpec.upto packetKeysSpec)

/-- 'weighbridgelaw09.PacketBack', WHERE WHAT IT READS IS OF BULK AT MOST 1048576: true; the input reads as it did. -/
def packetBackUptoRow : OpenClaim := { program := "ytkganedlhcepfaa", sum := "9759bbecd1d425807a2040df6680b25d53574a47f2fe7c31dbd7b333c0488d46", func := "weighbridge/weighbridgelaw09.PacketBack", spec := "packetBack", unfollowed := true, recurses := true, apart := false, narrowed := true }
def PacketBackUptoSaid : Prop := packetBackUptoRow.holds Try.pinned (OpenSpec.upto packetBackSpec)

end Rows
end Go.Proofs.Ytkganedlhcepfaa
