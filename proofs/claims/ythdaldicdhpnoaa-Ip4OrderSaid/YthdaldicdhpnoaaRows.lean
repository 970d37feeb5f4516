/-
  No cell of these rows narrows 'for every input' (looked for: loops, veiled, ifaces, maps, wideKeys, modest, calm, conditions, laid).
  DERIVED. THE GIVEN ROWS OF THIS SEAT. 7 by the template 'for every input the law returns true; each argument reads behind the call as it read before'; 0 by the template 'total and deterministic' (their statements: YthdaldicdhpnoaaTotals.lean).
  GIVEN WITH THE SEED: the statements are not yours to turn. If you find one false, say at which input.
  Laid BY PROGRAM, IN A SANDBOX (cutbox-rows.mjs): the forced cells as the released guide's own fill.sh prints them over the translation 5690937b080f6b5e… (all of the seat's roots in one cut). By AI agents, Wed Nov 11 2026. No macro, syntax, notation, axiom, sorry.
-/
import Derived.Test.YthdaldicdhpnoaaChecked
import GoSem.Claim
import GoSem.ClaimJoined
import GoSem.ClaimMapViews
import Derived.JoinedTies
import Derived.KernelRfl
namespace Go.Proofs.Ythdaldicdhpnoaa
/- THE CELL 'sum', in the pinned program and in every row, IS THE sha256 OF THE DUMP (.gsa) THAT YthdaldicdhpnoaaProg.lean LOADS. Nothing in Lean hashes anything: it is a label: what it is worth is what the hold of that sum in a sandbox is worth. -/
noncomputable def Try.pinned : Pinned := { name := "ythdaldicdhpnoaa", sum := "5690937b080f6b5e4abb0ef52253cb408373aad1d3b5962a33e8a4b9a34e8ae5", checked := Try.checked }
namespace Rows
def none {H : Type} : Left H := { results := [], args := [] }

/-- 'weighbridgelaw04.Ip4Builds': WHATEVER THE INPUT: true; the input reads as it did. -/
def ip4BuildsSpec : ChangeSpec := { name := "ip4Builds", fn := fun _ => fun
  | [d1, d2] => { results := [.lit (.bool true)], args := [d1, d2] }
  | _ => none }
def ip4BuildsRow : OpenClaim := { program := "ythdaldicdhpnoaa", sum := "5690937b080f6b5e4abb0ef52253cb408373aad1d3b5962a33e8a4b9a34e8ae5", func := "weighbridge/weighbridgelaw04.Ip4Builds", spec := "ip4Builds", inPlace := ["internal/abi.NoEscape"], unfollowed := true, recurses := true, apart := false }
def Ip4BuildsSaid : Prop := ip4BuildsRow.holds Try.pinned (OpenSpec.ofChange ip4BuildsSpec)

/-- ITS FALSE NEIGHBOUR: 'it returns false'. Refute it at one input. -/
def ip4BuildsWrong : ChangeSpec := { name := "ip4Builds", fn := fun _ => fun
  | [d1, d2] => { results := [.lit (.bool false)], args := [d1, d2] }
  | _ => none }
def Ip4BuildsWrongFalsely : Prop := ip4BuildsRow.holds Try.pinned (OpenSpec.ofChange ip4BuildsWrong)

/-- 'weighbridgelaw04.Ip4Back': WHATEVER THE INPUT: true; the input reads as it did. -/
def ip4BackSpec : ChangeSpec := { name := "ip4Back", fn := fun _ => fun
  | [d1, d2, d3] => { results := [.lit (.bool true)], args := [d1, d2, d3] }
  | _ => none }
def ip4BackRow : OpenClaim := { program := "ythdaldicdhpnoaa", sum := "5690937b080f6b5e4abb0ef52253cb408373aad1d3b5962a33e8a4b9a34e8ae5", func := "weighbridge/weighbridgelaw04.Ip4Back", spec := "ip4Back", inPlace := ["internal/abi.NoEscape"], unfollowed := true, recurses := true, apart := false }
def Ip4BackSaid : Prop := ip4BackRow.holds Try.pinned (OpenSpec.ofChange ip4BackSpec)

/-- ITS FALSE NEIGHBOUR: 'it returns false'. Refute it at one input. -/
def ip4BackWrong : ChangeSpec := { name := "ip4Back", fn := fun _ => fun
  | [d1, d2, d3] => { results := [.lit (.bool false)], args := [d1, d2, d3] }
  | _ => none }
def Ip4BackWrongFalsely : Prop := ip4BackRow.holds Try.pinned (OpenSpec.ofChange ip4BackWrong)

/-- 'weighbridgelaw04.Ip4Bit': WHATEVER THE INPUT: true; the input reads as it did. -/
def ip4BitSpec : ChangeSpec := { name := "ip4Bit", fn := fun _ => fun
  | [d1, d2, d3] => { results := [.lit (.bool true)], args := [d1, d2, d3] }
  | _ => none }
def ip4BitRow : OpenClaim := { program := "ythdaldicdhpnoaa", sum := "5690937b080f6b5e4abb0ef52253cb408373aad1d3b5962a33e8a4b9a34e8ae5", func := "weighbridge/weighbridgelaw04.Ip4Bit", spec := "ip4Bit", inPlace := ["internal/abi.NoEscape"], unfollowed := true, recurses := true, apart := false }
def Ip4BitSaid : Prop := ip4BitRow.holds Try.pinned (OpenSpec.ofChange ip4BitSpec)

/-- ITS FALSE NEIGHBOUR: 'it returns false'. Refute it at one input. -/
def ip4BitWrong : ChangeSpec := { name := "ip4Bit", fn := fun _ => fun
  | [d1, d2, d3] => { results := [.lit (.bool false)], args := [d1, d2, d3] }
  | _ => none }
def Ip4BitWrongFalsely : Prop := ip4BitRow.holds Try.pinned (OpenSpec.ofChange ip4BitWrong)

/-- 'weighbridgelaw04.Ip4Options': WHATEVER THE INPUT: true; the input reads as it did. -/
def ip4OptionsSpec : ChangeSpec := { name := "ip4Options", fn := fun _ => fun
  | [d1, d2, d3, d4] => { results := [.lit (.bool true)], args := [d1, d2, d3, d4] }
  | _ => none }
def ip4OptionsRow : OpenClaim := { program := "ythdaldicdhpnoaa", sum := "5690937b080f6b5e4abb0ef52253cb408373aad1d3b5962a33e8a4b9a34e8ae5", func := "weighbridge/weighbridgelaw04.Ip4Options", spec := "ip4Options", inPlace := ["internal/abi.NoEscape"], unfollowed := true, recurses := true, apart := false }
def Ip4OptionsSaid : Prop := ip4OptionsRow.holds Try.pinned (OpenSpec.ofChange ip4OptionsSpec)

/-- ITS FALSE NEIGHBOUR: 'it returns false'. Refute it at one input. -/
def ip4OptionsWrong : ChangeSpec := { name := "ip4Options", fn := fun _ => fun
  | [d1, d2, d3, d4] => { results := [.lit (.bool false)], args := [d1, d2, d3, d4] }
  | _ => none }
def Ip4OptionsWrongFalsely : Prop := ip4OptionsRow.holds Try.pinned (OpenSpec.ofChange ip4OptionsWrong)

/-- 'weighbridgelaw04.Ip4Limits': WHATEVER THE INPUT: true; the input reads as it did. -/
def ip4LimitsSpec : ChangeSpec := { name := "ip4Limits", fn := fun _ => fun
  | [d1, d2] => { results := [.lit (.bool true)], args := [d1, d2] }
  | _ => none }
def ip4LimitsRow : OpenClaim := { program := "ythdaldicdhpnoaa", sum := "5690937b080f6b5e4abb0ef52253cb408373aad1d3b5962a33e8a4b9a34e8ae5", func := "weighbridge/weighbridgelaw04.Ip4Limits", spec := "ip4Limits", inPlace := ["internal/abi.NoEscape"], unfollowed := true, recurses := true, apart := false }
def Ip4LimitsSaid : Prop := ip4LimitsRow.holds Try.pinned (OpenSpec.ofChange ip4LimitsSpec)

/-- ITS FALSE NEIGHBOUR: 'it returns false'. Refute it at one input. -/
def ip4LimitsWrong : ChangeSpec := { name := "ip4Limits", fn := fun _ => fun
  | [d1, d2] => { results := [.lit (.bool false)], args := [d1, d2] }
  | _ => none }
def Ip4LimitsWrongFalsely : Prop := ip4LimitsRow.holds Try.pinned (OpenSpec.ofChange ip4LimitsWrong)

/-- 'weighbridgelaw04.Ip4Order': WHATEVER THE INPUT: true; the input reads as it did. -/
def ip4OrderSpec : ChangeSpec := { name := "ip4Order", fn := fun _ => fun
  | [d1, d2] => { results := [.lit (.bool true)], args := [d1, d2] }
  | _ => none }
def ip4OrderRow : OpenClaim := { program := "ythdaldicdhpnoaa", sum := "5690937b080f6b5e4abb0ef52253cb408373aad1d3b5962a33e8a4b9a34e8ae5", func := "weighbridge/weighbridgelaw04.Ip4Order", spec := "ip4Order", inPlace := ["internal/abi.NoEscape"], unfollowed := true, recurses := true, apart := false }
def Ip4OrderSaid : Prop := ip4OrderRow.holds Try.pinned (OpenSpec.ofChange ip4OrderSpec)

/-- ITS FALSE NEIGHBOUR: 'it returns false'. Refute it at one input. -/
def ip4OrderWrong : ChangeSpec := { name := "ip4Order", fn := fun _ => fun
  | [d1, d2] => { results := [.lit (.bool false)], args := [d1, d2] }
  | _ => none }
def Ip4OrderWrongFalsely : Prop := ip4OrderRow.holds Try.pinned (OpenSpec.ofChange ip4OrderWrong)

/-- 'weighbridgelaw04.Ip4Parses': WHATEVER THE INPUT: true; the input reads as it did. -/
def ip4ParsesSpec : ChangeSpec := { name := "ip4Parses", fn := fun _ => fun
  | [d1, d2, d3, d4, d5, d6, d7] => { results := [.lit (.bool true)], args := [d1, d2, d3, d4, d5, d6, d7] }
  | _ => none }
def ip4ParsesRow : OpenClaim := { program := "ythdaldicdhpnoaa", sum := "5690937b080f6b5e4abb0ef52253cb408373aad1d3b5962a33e8a4b9a34e8ae5", func := "weighbridge/weighbridgelaw04.Ip4Parses", spec := "ip4Parses", inPlace := ["internal/abi.NoEscape"], unfollowed := true, recurses := true, apart := false }
def Ip4ParsesSaid : Prop := ip4ParsesRow.holds Try.pinned (OpenSpec.ofChange ip4ParsesSpec)

/-- ITS FALSE NEIGHBOUR: 'it returns false'. Refute it at one input. -/
def ip4ParsesWrong : ChangeSpec := { name := "ip4Parses", fn := fun _ => fun
  | [d1, d2, d3, d4, d5, d6, d7] => { results := [.lit (.bool false)], args := [d1, d2, d3, d4, d5, d6, d7] }
  | _ => none }
def Ip4ParsesWrongFalsely : Prop := ip4ParsesRow.holds Try.pinned (OpenSpec.ofChange ip4ParsesWrong)

/- THE SECOND FORM. 'bulk': how many values and letters a reading holds, each counted each time it is reached (what is shared counts as often as it is met; a slice's spare places count too). A statement '..UptoSaid' is the law's where the arguments, and the package variables that the reading takes, are together of bulk at most 1048576: NARROWER than '..Said'. Prove '..Said' where nothing that the law and all that it calls make is longer than what came in: it says more and counts as full. Else prove '..UptoSaid'. A law counts once. -/
mutual
def uptoBulk {H : Type} : DataW H → Nat
  | .lit (.string bytes) => bytes.length + 1
  | .lit _ => 1
  | .nil => 1
  | .ptr d => uptoBulk d + 1
  | .slice elems spare => uptoBulkAll elems + uptoBulkAll spare + 1
  | .agg parts => uptoBulkAll parts + 1
  | .iface _ d => uptoBulk d + 1
  | .map entries => uptoBulkEntries entries + 1
  | .held _ => 1
def uptoBulkAll {H : Type} : List (DataW H) → Nat
  | [] => 0
  | d :: r => uptoBulk d + uptoBulkAll r
def uptoBulkEntries {H : Type} : List (Lit × DataW H) → Nat
  | [] => 0
  | x :: r => uptoBulkEntry x + uptoBulkEntries r
def uptoBulkEntry {H : Type} : Lit × DataW H → Nat
  | (.string bytes, d) => bytes.length + uptoBulk d + 1
  | (_, d) => uptoBulk d + 1
 end
def uptoSmall : (H : Type) → List (DataW H) → Bool := fun _ ds => decide (uptoBulkAll ds ≤ 1048576)
def OpenSpec.upto (s : _root_.Go.ChangeSpec) : _root_.Go.OpenSpec := { _root_.Go.OpenSpec.ofChange s with cond := some uptoSmall }

/-- 'weighbridgelaw04.Ip4Builds', WHERE WHAT IT READS IS OF BULK AT MOST 1048576: true; the input reads as it did. -/
def ip4BuildsUptoRow : OpenClaim := { program := "ythdaldicdhpnoaa", sum := "5690937b080f6b5e4abb0ef52253cb408373aad1d3b5962a33e8a4b9a34e8ae5", func := "weighbridge/weighbridgelaw04.Ip4Builds", spec := "ip4Builds", inPlace := ["internal/abi.NoEscape"], unfollowed := true, recurses := true, apart := false, narrowed := true }
def Ip4BuildsUptoSaid : Prop := ip4BuildsUptoRow.holds Try.pinned (OpenSpec.upto ip4BuildsSpec)

/-- 'weighbridgelaw04.Ip4Back', WHERE WHAT IT READS IS OF BULK AT MOST 1048576: true; the input reads as it did. -/
def ip4BackUptoRow : OpenClaim := { program := "ythdaldicdhpnoaa", sum := "5690937b080f6b5e4abb0ef52253cb408373aad1d3b5962a33e8a4b9a34e8ae5", func := "weighbridge/weighbridgelaw04.Ip4Back", spec := "ip4Back", inPlace := ["internal/abi.NoEscape"], unfollowed := true, recurses := true, apart := false, narrowed := true }
def Ip4BackUptoSaid : Prop := ip4BackUptoRow.holds Try.pinned (OpenSpec.upto ip4BackSpec)

/-- 'weighbridgelaw04.Ip4Bit', WHERE WHAT IT READS IS OF BULK AT MOST 1048576: true; the input reads as it did. -/
def ip4BitUptoRow : OpenClaim := { program := "ythdaldicdhpnoaa", sum := "5690937b080f6b5e4abb0ef52253cb408373aad1d3b5962a33e8a4b9a34e8ae5", func := "weighbridge/weighbridgelaw04.Ip4Bit", spec := "ip4Bit", inPlace := ["internal/abi.NoEscape"], unfollowed := true, recurses := true, apart := false, narrowed := true }
def Ip4BitUptoSaid : Prop := ip4BitUptoRow.holds Try.pinned (OpenSpec.upto ip4BitSpec)

/-- 'weighbridgelaw04.Ip4Options', WHERE WHAT IT READS IS OF BULK AT MOST 1048576: true; the input reads as it did. -/
def ip4OptionsUptoRow : OpenClaim := { program := "ythdaldicdhpnoaa", sum := "5690937b080f6b5e4abb0ef52253cb408373aad1d3b5962a33e8a4b9a34e8ae5", func := "weighbridge/weighbridgelaw04.Ip4Options", spec := "ip4Options", inPlace := ["internal/abi.NoEscape"], unfollowed := true, recurses := true, apart := false, narrowed := true }
def Ip4OptionsUptoSaid : Prop := ip4OptionsUptoRow.holds Try.pinned (OpenSpec.upto ip4OptionsSpec)

/-- 'weighbridgelaw04.Ip4Limits', WHERE WHAT IT READS IS OF BULK AT MOST 1048576: true; the input reads as it did. -/
def ip4LimitsUptoRow : OpenClaim := { program := "ythdaldicdhpnoaa", sum := "5690937b080f6b5e4abb0ef52253cb408373aad1d3b5962a33e8a4b9a34e8ae5", func := "weighbridge/weighbridgelaw04.Ip4Limits", spec := "ip4Limits", inPlace := ["internal/abi.NoEscape"], unfollowed := true, recurses := true, apart := false, narrowed := true }
def Ip4LimitsUptoSaid : Prop := ip4LimitsUptoRow.holds Try.pinned (OpenSpec.upto ip4LimitsSpec)

/-- 'weighbridgelaw04.Ip4Order', WHERE WHAT IT READS IS OF BULK AT MOST 1048576: true; the input reads as it did. -/
def ip4OrderUptoRow : OpenClaim := { program := "ythdaldicdhpnoaa", sum := "5690937b080f6b5e4abb0ef52253cb408373aad1d3b5962a33e8a4b9a34e8ae5", func := "weighbridge/weighbridgelaw04.Ip4Order", spec := "ip4Order", inPlace := ["internal/abi.NoEscape"], unfollowed := true, recurses := true, apart := false, narrowed := true }
def Ip4OrderUptoSaid : Prop := ip4OrderUptoRow.holds Try.pinned (OpenSpec.upto ip4OrderSpec)

/-- 'weighbridgelaw04.Ip4Parses', WHERE WHAT IT READS IS OF BULK AT MOST 1048576: true; the input reads as it did. -/
def ip4ParsesUptoRow : OpenClaim := { program := "ythdaldicdhpnoaa", sum := "5690937b080f6b5e4abb0ef52253cb408373aad1d3b5962a33e8a4b9a34e8ae5", func := "weighbridge/weighbridgelaw04.Ip4Parses", spec := "ip4Parses", inPlace := ["internal/abi.NoEscape"], unfollowed := true, recurses := true, apart := false, narrowed := true }
def Ip4ParsesUptoSaid : Prop := ip4ParsesUptoRow.holds Try.pinned (OpenSpec.upto ip4ParsesSpec)

end Rows
end Go.Proofs.Ythdaldicdhpnoaa
