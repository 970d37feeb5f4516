/-
  No cell of these rows narrows 'for every input' (looked for: loops, veiled, ifaces, maps, wideKeys, modest, calm, conditions, laid).
  DERIVED. THE GIVEN ROWS OF THIS SEAT. 7 by the template 'for every input the law returns true; each argument reads behind the call as it read before'; 0 by the template 'total and deterministic' (their statements: YtlhpfoibohiggaaTotals.lean).
  GIVEN WITH THE SEED: the statements are not yours to turn. If you find one false, say at which input.
  Laid BY PROGRAM, IN A SANDBOX (cutbox-rows.mjs): the forced cells as the released guide's own fill.sh prints them over the translation 41ee82bcdf25a381… (all of the seat's roots in one cut). By AI agents, Wed Nov 11 2026. No macro, syntax, notation, axiom, sorry.
-/
import Derived.Test.YtlhpfoibohiggaaChecked
import GoSem.Claim
import GoSem.ClaimJoined
import GoSem.ClaimMapViews
import Derived.JoinedTies
import Derived.KernelRfl
namespace Go.Proofs.Ytlhpfoibohiggaa
/- THE CELL 'sum', in the pinned program and in every row, IS THE sha256 OF THE DUMP (.gsa) THAT YtlhpfoibohiggaaProg.lean LOADS. Nothing in Lean hashes anything: it is a label: what it is worth is what the hold of that sum in a sandbox is worth. -/
noncomputable def Try.pinned : Pinned := { name := "ytlhpfoibohiggaa", sum := "41ee82bcdf25a38167524f2a9f348f207c3bbf1e6e660e604f85bd4915a55355", checked := Try.checked }
namespace Rows
def none {H : Type} : Left H := { results := [], args := [] }

/-- 'weighbridgelaw05.TcpBuilds': WHATEVER THE INPUT: true; the input reads as it did. -/
def tcpBuildsSpec : ChangeSpec := { name := "tcpBuilds", fn := fun _ => fun
  | [d1, d2, d3] => { results := [.lit (.bool true)], args := [d1, d2, d3] }
  | _ => none }
def tcpBuildsRow : OpenClaim := { program := "ytlhpfoibohiggaa", sum := "41ee82bcdf25a38167524f2a9f348f207c3bbf1e6e660e604f85bd4915a55355", func := "weighbridge/weighbridgelaw05.TcpBuilds", spec := "tcpBuilds", unfollowed := true, recurses := true, apart := false }
def TcpBuildsSaid : Prop := tcpBuildsRow.holds Try.pinned (OpenSpec.ofChange tcpBuildsSpec)

/-- ITS FALSE NEIGHBOUR: 'it returns false'. Refute it at one input. -/
def tcpBuildsWrong : ChangeSpec := { name := "tcpBuilds", fn := fun _ => fun
  | [d1, d2, d3] => { results := [.lit (.bool false)], args := [d1, d2, d3] }
  | _ => none }
def TcpBuildsWrongFalsely : Prop := tcpBuildsRow.holds Try.pinned (OpenSpec.ofChange tcpBuildsWrong)

/-- 'weighbridgelaw05.TcpParses': WHATEVER THE INPUT: true; the input reads as it did. -/
def tcpParsesSpec : ChangeSpec := { name := "tcpParses", fn := fun _ => fun
  | [d1, d2, d3, d4, d5, d6] => { results := [.lit (.bool true)], args := [d1, d2, d3, d4, d5, d6] }
  | _ => none }
def tcpParsesRow : OpenClaim := { program := "ytlhpfoibohiggaa", sum := "41ee82bcdf25a38167524f2a9f348f207c3bbf1e6e660e604f85bd4915a55355", func := "weighbridge/weighbridgelaw05.TcpParses", spec := "tcpParses", unfollowed := true, recurses := true, apart := false }
def TcpParsesSaid : Prop := tcpParsesRow.holds Try.pinned (OpenSpec.ofChange tcpParsesSpec)

/-- ITS FALSE NEIGHBOUR: 'it returns false'. Refute it at one input. -/
def tcpParsesWrong : ChangeSpec := { name := "tcpParses", fn := fun _ => fun
  | [d1, d2, d3, d4, d5, d6] => { results := [.lit (.bool false)], args := [d1, d2, d3, d4, d5, d6] }
  | _ => none }
def TcpParsesWrongFalsely : Prop := tcpParsesRow.holds Try.pinned (OpenSpec.ofChange tcpParsesWrong)

/-- 'weighbridgelaw05.TcpBack': WHATEVER THE INPUT: true; the input reads as it did. -/
def tcpBackSpec : ChangeSpec := { name := "tcpBack", fn := fun _ => fun
  | [d1, d2, d3] => { results := [.lit (.bool true)], args := [d1, d2, d3] }
  | _ => none }
def tcpBackRow : OpenClaim := { program := "ytlhpfoibohiggaa", sum := "41ee82bcdf25a38167524f2a9f348f207c3bbf1e6e660e604f85bd4915a55355", func := "weighbridge/weighbridgelaw05.TcpBack", spec := "tcpBack", unfollowed := true, recurses := true, apart := false }
def TcpBackSaid : Prop := tcpBackRow.holds Try.pinned (OpenSpec.ofChange tcpBackSpec)

/-- ITS FALSE NEIGHBOUR: 'it returns false'. Refute it at one input. -/
def tcpBackWrong : ChangeSpec := { name := "tcpBack", fn := fun _ => fun
  | [d1, d2, d3] => { results := [.lit (.bool false)], args := [d1, d2, d3] }
  | _ => none }
def TcpBackWrongFalsely : Prop := tcpBackRow.holds Try.pinned (OpenSpec.ofChange tcpBackWrong)

/-- 'weighbridgelaw05.TcpNames': WHATEVER THE INPUT: true; the input reads as it did. -/
def tcpNamesSpec : ChangeSpec := { name := "tcpNames", fn := fun _ => fun
  | [d1, d2] => { results := [.lit (.bool true)], args := [d1, d2] }
  | _ => none }
def tcpNamesRow : OpenClaim := { program := "ytlhpfoibohiggaa", sum := "41ee82bcdf25a38167524f2a9f348f207c3bbf1e6e660e604f85bd4915a55355", func := "weighbridge/weighbridgelaw05.TcpNames", spec := "tcpNames", unfollowed := true, recurses := true, apart := false }
def TcpNamesSaid : Prop := tcpNamesRow.holds Try.pinned (OpenSpec.ofChange tcpNamesSpec)

/-- ITS FALSE NEIGHBOUR: 'it returns false'. Refute it at one input. -/
def tcpNamesWrong : ChangeSpec := { name := "tcpNames", fn := fun _ => fun
  | [d1, d2] => { results := [.lit (.bool false)], args := [d1, d2] }
  | _ => none }
def TcpNamesWrongFalsely : Prop := tcpNamesRow.holds Try.pinned (OpenSpec.ofChange tcpNamesWrong)

/-- 'weighbridgelaw05.TcpLimits': WHATEVER THE INPUT: true; the input reads as it did. -/
def tcpLimitsSpec : ChangeSpec := { name := "tcpLimits", fn := fun _ => fun
  | [d1, d2, d3, d4] => { results := [.lit (.bool true)], args := [d1, d2, d3, d4] }
  | _ => none }
def tcpLimitsRow : OpenClaim := { program := "ytlhpfoibohiggaa", sum := "41ee82bcdf25a38167524f2a9f348f207c3bbf1e6e660e604f85bd4915a55355", func := "weighbridge/weighbridgelaw05.TcpLimits", spec := "tcpLimits", unfollowed := true, recurses := true, apart := false }
def TcpLimitsSaid : Prop := tcpLimitsRow.holds Try.pinned (OpenSpec.ofChange tcpLimitsSpec)

/-- ITS FALSE NEIGHBOUR: 'it returns false'. Refute it at one input. -/
def tcpLimitsWrong : ChangeSpec := { name := "tcpLimits", fn := fun _ => fun
  | [d1, d2, d3, d4] => { results := [.lit (.bool false)], args := [d1, d2, d3, d4] }
  | _ => none }
def TcpLimitsWrongFalsely : Prop := tcpLimitsRow.holds Try.pinned (OpenSpec.ofChange tcpLimitsWrong)

/-- 'weighbridgelaw05.TcpCut': WHATEVER THE INPUT: true; the input reads as it did. -/
def tcpCutSpec : ChangeSpec := { name := "tcpCut", fn := fun _ => fun
  | [d1, d2, d3] => { results := [.lit (.bool true)], args := [d1, d2, d3] }
  | _ => none }
def tcpCutRow : OpenClaim := { program := "ytlhpfoibohiggaa", sum := "41ee82bcdf25a38167524f2a9f348f207c3bbf1e6e660e604f85bd4915a55355", func := "weighbridge/weighbridgelaw05.TcpCut", spec := "tcpCut", unfollowed := true, recurses := true, apart := false }
def TcpCutSaid : Prop := tcpCutRow.holds Try.pinned (OpenSpec.ofChange tcpCutSpec)

/-- ITS FALSE NEIGHBOUR: 'it returns false'. Refute it at one input. -/
def tcpCutWrong : ChangeSpec := { name := "tcpCut", fn := fun _ => fun
  | [d1, d2, d3] => { results := [.lit (.bool false)], args := [d1, d2, d3] }
  | _ => none }
def TcpCutWrongFalsely : Prop := tcpCutRow.holds Try.pinned (OpenSpec.ofChange tcpCutWrong)

/-- 'weighbridgelaw05.TcpOptions': WHATEVER THE INPUT: true; the input reads as it did. -/
def tcpOptionsSpec : ChangeSpec := { name := "tcpOptions", fn := fun _ => fun
  | [d1, d2, d3, d4] => { results := [.lit (.bool true)], args := [d1, d2, d3, d4] }
  | _ => none }
def tcpOptionsRow : OpenClaim := { program := "ytlhpfoibohiggaa", sum := "41ee82bcdf25a38167524f2a9f348f207c3bbf1e6e660e604f85bd4915a55355", func := "weighbridge/weighbridgelaw05.TcpOptions", spec := "tcpOptions", unfollowed := true, recurses := true, apart := false }
def TcpOptionsSaid : Prop := tcpOptionsRow.holds Try.pinned (OpenSpec.ofChange tcpOptionsSpec)

/-- ITS FALSE NEIGHBOUR: 'it returns false'. Refute it at one input. -/
def tcpOptionsWrong : ChangeSpec := { name := "tcpOptions", fn := fun _ => fun
  | [d1, d2, d3, d4] => { results := [.lit (.bool false)], args := [d1, d2, d3, d4] }
  | _ => none }
def TcpOptionsWrongFalsely : Prop := tcpOptionsRow.holds Try.pinned (OpenSpec.ofChange tcpOptionsWrong)

/- THE SECOND FORM. 'bulk': how many values and letters a reading holds, each counted each time it is reached (what is shared counts as often as it is met; a slice's spare places count too). A statement '..UptoSaid' is the law's where the arguments, and the package variables that the reading takes, are together of bulk at most 1048576: NARROWER than '..Said'. Prove '..Said' where nothing that the law and all that it calls make is longer than what came in: it says more and counts as full. Else prove '..UptoSaid'. A law counts once. -/
mutual
def uptoBulk {H : Type} : DataW H → Nat
  | .lit (.string bytes) => bytes.length + 1
  | .lit _ => 1
  | .nil => 1
  | .ptr d => uptoBulk d + 1
  | .slice elems spare => uptoBulkAll elems + uptoBulkAll spare + 1
  | .agg parts => uptoBulkAll parts + 1
  | .iface _ d => uptoBulk d + 1
  | .map entries => uptoBulkEntries entries + 1
  | .held _ => 1
def uptoBulkAll {H : Type} : List (DataW H) → Nat
  | [] => 0
  | d :: r => uptoBulk d + uptoBulkAll r
def uptoBulkEntries {H : Type} : List (Lit × DataW H) → Nat
  | [] => 0
  | x :: r => uptoBulkEntry x + uptoBulkEntries r
def uptoBulkEntry {H : Type} : Lit × DataW H → Nat
  | (.string bytes, d) => bytes.length + uptoBulk d + 1
  | (_, d) => uptoBulk d + 1
 end
def uptoSmall : (H : Type) → List (DataW H) → Bool := fun _ ds => decide (uptoBulkAll ds ≤ 1048576)
def OpenSpec.upto (s : _root_.Go.ChangeSpec) : _root_.Go.OpenSpec := { _root_.Go.OpenSpec.ofChange s with cond := some uptoSmall }

/-- 'weighbridgelaw05.TcpBuilds', WHERE WHAT IT READS IS OF BULK AT MOST 1048576: true; the input reads as it did. -/
def tcpBuildsUptoRow : OpenClaim := { program := "ytlhpfoibohiggaa", sum := "41ee82bcdf25a38167524f2a9f348f207c3bbf1e6e660e604f85bd4915a55355", func := "weighbridge/weighbridgelaw05.TcpBuilds", spec := "tcpBuilds", unfollowed := true, recurses := true, apart := false, narrowed := true }
def TcpBuildsUptoSaid : Prop := tcpBuildsUptoRow.holds Try.pinned (OpenSpec.upto tcpBuildsSpec)

/-- 'weighbridgelaw05.TcpParses', WHERE WHAT IT READS IS OF BULK AT MOST 1048576: true; the input reads as it did. -/
def tcpParsesUptoRow : OpenClaim := { program := "ytlhpfoibohiggaa", sum := "41ee82bcdf25a38167524f2a9f348f207c3bbf1e6e660e604f85bd4915a55355", func := "weighbridge/weighbridgelaw05.TcpParses", spec := "tcpParses", unfollowed := true, recurses := true, apart := false, narrowed := true }
def TcpParsesUptoSaid : Prop := tcpParsesUptoRow.holds Try.pinned (OpenSpec.upto tcpParsesSpec)

/-- 'weighbridgelaw05.TcpBack', WHERE WHAT IT READS IS OF BULK AT MOST 1048576: true; the input reads as it did. -/
def tcpBackUptoRow : OpenClaim := { program := "ytlhpfoibohiggaa", sum := "41ee82bcdf25a38167524f2a9f348f207c3bbf1e6e660e604f85bd4915a55355", func := "weighbridge/weighbridgelaw05.TcpBack", spec := "tcpBack", unfollowed := true, recurses := true, apart := false, narrowed := true }
def TcpBackUptoSaid : Prop := tcpBackUptoRow.holds Try.pinned (OpenSpec.upto tcpBackSpec)

/-- 'weighbridgelaw05.TcpNames', WHERE WHAT IT READS IS OF BULK AT MOST 1048576: true; the input reads as it did. -/
def tcpNamesUptoRow : OpenClaim := { program := "ytlhpfoibohiggaa", sum := "41ee82bcdf25a38167524f2a9f348f207c3bbf1e6e660e604f85bd4915a55355", func := "weighbridge/weighbridgelaw05.TcpNames", spec := "tcpNames", unfollowed := true, recurses := true, apart := false, narrowed := true }
def TcpNamesUptoSaid : Prop := tcpNamesUptoRow.holds Try.pinned (OpenSpec.upto tcpNamesSpec)

/-- 'weighbridgelaw05.TcpLimits', WHERE WHAT IT READS IS OF BULK AT MOST 1048576: true; the input reads as it did. -/
def tcpLimitsUptoRow : OpenClaim := { program := "ytlhpfoibohiggaa", sum := "41ee82bcdf25a38167524f2a9f348f207c3bbf1e6e660e604f85bd4915a55355", func := "weighbridge/weighbridgelaw05.TcpLimits", spec := "tcpLimits", unfollowed := true, recurses := true, apart := false, narrowed := true }
def TcpLimitsUptoSaid : Prop := tcpLimitsUptoRow.holds Try.pinned (OpenSpec.upto tcpLimitsSpec)

/-- 'weighbridgelaw05.TcpCut', WHERE WHAT IT READS IS OF BULK AT MOST 1048576: true; the input reads as it did. -/
def tcpCutUptoRow : OpenClaim := { program := "ytlhpfoibohiggaa", sum := "41ee82bcdf25a38167524f2a9f348f207c3bbf1e6e660e604f85bd4915a55355", func := "weighbridge/weighbridgelaw05.TcpCut", spec := "tcpCut", unfollowed := true, recurses := true, apart := false, narrowed := true }
def TcpCutUptoSaid : Prop := tcpCutUptoRow.holds Try.pinned (OpenSpec.upto tcpCutSpec)

/-- 'weighbridgelaw05.TcpOptions', WHERE WHAT IT READS IS OF BULK AT MOST 1048576: true; the input reads as it did. -/
def tcpOptionsUptoRow : OpenClaim := { program := "ytlhpfoibohiggaa", sum := "41ee82bcdf25a38167524f2a9f348f207c3bbf1e6e660e604f85bd4915a55355", func := "weighbridge/weighbridgelaw05.TcpOptions", spec := "tcpOptions", unfollowed := true, recurses := true, apart := false, narrowed := true }
def TcpOptionsUptoSaid : Prop := tcpOptionsUptoRow.holds Try.pinned (OpenSpec.upto tcpOptionsSpec)

end Rows
end Go.Proofs.Ytlhpfoibohiggaa
