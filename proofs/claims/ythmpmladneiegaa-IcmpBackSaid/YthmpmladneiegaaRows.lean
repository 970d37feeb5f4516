/-
  No cell of these rows narrows 'for every input' (looked for: loops, veiled, ifaces, maps, wideKeys, modest, calm, conditions, laid).
  DERIVED. THE GIVEN ROWS OF THIS SEAT. 11 by the template 'for every input the law returns true; each argument reads behind the call as it read before'; 0 by the template 'total and deterministic' (their statements: YthmpmladneiegaaTotals.lean).
  GIVEN WITH THE SEED: the statements are not yours to turn. If you find one false, say at which input.
  Laid BY PROGRAM, IN A SANDBOX (cutbox-rows.mjs): the forced cells as the released guide's own fill.sh prints them over the translation 885c28958353b8b0… (all of the seat's roots in one cut). By AI agents, Wed Nov 11 2026. No macro, syntax, notation, axiom, sorry.
-/
import Derived.Test.YthmpmladneiegaaChecked
import GoSem.Claim
import GoSem.ClaimJoined
import GoSem.ClaimMapViews
import Derived.JoinedTies
import Derived.KernelRfl
namespace Go.Proofs.Ythmpmladneiegaa
/- THE CELL 'sum', in the pinned program and in every row, IS THE sha256 OF THE DUMP (.gsa) THAT YthmpmladneiegaaProg.lean LOADS. Nothing in Lean hashes anything: it is a label: what it is worth is what the hold of that sum in a sandbox is worth. -/
noncomputable def Try.pinned : Pinned := { name := "ythmpmladneiegaa", sum := "885c28958353b8b0deee4590c9f3d3e8d38be8af0799665efee9a185d23865a6", checked := Try.checked }
namespace Rows
def none {H : Type} : Left H := { results := [], args := [] }

/-- 'weighbridgelaw06.UdpBuilds': WHATEVER THE INPUT: true; the input reads as it did. -/
def udpBuildsSpec : ChangeSpec := { name := "udpBuilds", fn := fun _ => fun
  | [d1, d2, d3] => { results := [.lit (.bool true)], args := [d1, d2, d3] }
  | _ => none }
def udpBuildsRow : OpenClaim := { program := "ythmpmladneiegaa", sum := "885c28958353b8b0deee4590c9f3d3e8d38be8af0799665efee9a185d23865a6", func := "weighbridge/weighbridgelaw06.UdpBuilds", spec := "udpBuilds", unfollowed := true, recurses := true, apart := false }
def UdpBuildsSaid : Prop := udpBuildsRow.holds Try.pinned (OpenSpec.ofChange udpBuildsSpec)

/-- ITS FALSE NEIGHBOUR: 'it returns false'. Refute it at one input. -/
def udpBuildsWrong : ChangeSpec := { name := "udpBuilds", fn := fun _ => fun
  | [d1, d2, d3] => { results := [.lit (.bool false)], args := [d1, d2, d3] }
  | _ => none }
def UdpBuildsWrongFalsely : Prop := udpBuildsRow.holds Try.pinned (OpenSpec.ofChange udpBuildsWrong)

/-- 'weighbridgelaw06.UdpParses': WHATEVER THE INPUT: true; the input reads as it did. -/
def udpParsesSpec : ChangeSpec := { name := "udpParses", fn := fun _ => fun
  | [d] => { results := [.lit (.bool true)], args := [d] }
  | _ => none }
def udpParsesRow : OpenClaim := { program := "ythmpmladneiegaa", sum := "885c28958353b8b0deee4590c9f3d3e8d38be8af0799665efee9a185d23865a6", func := "weighbridge/weighbridgelaw06.UdpParses", spec := "udpParses", unfollowed := true, recurses := true, apart := false }
def UdpParsesSaid : Prop := udpParsesRow.holds Try.pinned (OpenSpec.ofChange udpParsesSpec)

/-- ITS FALSE NEIGHBOUR: 'it returns false'. Refute it at one input. -/
def udpParsesWrong : ChangeSpec := { name := "udpParses", fn := fun _ => fun
  | [d] => { results := [.lit (.bool false)], args := [d] }
  | _ => none }
def UdpParsesWrongFalsely : Prop := udpParsesRow.holds Try.pinned (OpenSpec.ofChange udpParsesWrong)

/-- 'weighbridgelaw06.UdpBack': WHATEVER THE INPUT: true; the input reads as it did. -/
def udpBackSpec : ChangeSpec := { name := "udpBack", fn := fun _ => fun
  | [d1, d2, d3, d4, d5] => { results := [.lit (.bool true)], args := [d1, d2, d3, d4, d5] }
  | _ => none }
def udpBackRow : OpenClaim := { program := "ythmpmladneiegaa", sum := "885c28958353b8b0deee4590c9f3d3e8d38be8af0799665efee9a185d23865a6", func := "weighbridge/weighbridgelaw06.UdpBack", spec := "udpBack", unfollowed := true, recurses := true, apart := false }
def UdpBackSaid : Prop := udpBackRow.holds Try.pinned (OpenSpec.ofChange udpBackSpec)

/-- ITS FALSE NEIGHBOUR: 'it returns false'. Refute it at one input. -/
def udpBackWrong : ChangeSpec := { name := "udpBack", fn := fun _ => fun
  | [d1, d2, d3, d4, d5] => { results := [.lit (.bool false)], args := [d1, d2, d3, d4, d5] }
  | _ => none }
def UdpBackWrongFalsely : Prop := udpBackRow.holds Try.pinned (OpenSpec.ofChange udpBackWrong)

/-- 'weighbridgelaw06.UdpLong': WHATEVER THE INPUT: true; the input reads as it did. -/
def udpLongSpec : ChangeSpec := { name := "udpLong", fn := fun _ => fun
  | [d1, d2] => { results := [.lit (.bool true)], args := [d1, d2] }
  | _ => none }
def udpLongRow : OpenClaim := { program := "ythmpmladneiegaa", sum := "885c28958353b8b0deee4590c9f3d3e8d38be8af0799665efee9a185d23865a6", func := "weighbridge/weighbridgelaw06.UdpLong", spec := "udpLong", unfollowed := true, recurses := true, apart := false }
def UdpLongSaid : Prop := udpLongRow.holds Try.pinned (OpenSpec.ofChange udpLongSpec)

/-- ITS FALSE NEIGHBOUR: 'it returns false'. Refute it at one input. -/
def udpLongWrong : ChangeSpec := { name := "udpLong", fn := fun _ => fun
  | [d1, d2] => { results := [.lit (.bool false)], args := [d1, d2] }
  | _ => none }
def UdpLongWrongFalsely : Prop := udpLongRow.holds Try.pinned (OpenSpec.ofChange udpLongWrong)

/-- 'weighbridgelaw06.UdpLength': WHATEVER THE INPUT: true; the input reads as it did. -/
def udpLengthSpec : ChangeSpec := { name := "udpLength", fn := fun _ => fun
  | [d1, d2] => { results := [.lit (.bool true)], args := [d1, d2] }
  | _ => none }
def udpLengthRow : OpenClaim := { program := "ythmpmladneiegaa", sum := "885c28958353b8b0deee4590c9f3d3e8d38be8af0799665efee9a185d23865a6", func := "weighbridge/weighbridgelaw06.UdpLength", spec := "udpLength", unfollowed := true, recurses := true, apart := false }
def UdpLengthSaid : Prop := udpLengthRow.holds Try.pinned (OpenSpec.ofChange udpLengthSpec)

/-- ITS FALSE NEIGHBOUR: 'it returns false'. Refute it at one input. -/
def udpLengthWrong : ChangeSpec := { name := "udpLength", fn := fun _ => fun
  | [d1, d2] => { results := [.lit (.bool false)], args := [d1, d2] }
  | _ => none }
def UdpLengthWrongFalsely : Prop := udpLengthRow.holds Try.pinned (OpenSpec.ofChange udpLengthWrong)

/-- 'weighbridgelaw06.UdpPorts': WHATEVER THE INPUT: true; the input reads as it did. -/
def udpPortsSpec : ChangeSpec := { name := "udpPorts", fn := fun _ => fun
  | [d1, d2, d3, d4] => { results := [.lit (.bool true)], args := [d1, d2, d3, d4] }
  | _ => none }
def udpPortsRow : OpenClaim := { program := "ythmpmladneiegaa", sum := "885c28958353b8b0deee4590c9f3d3e8d38be8af0799665efee9a185d23865a6", func := "weighbridge/weighbridgelaw06.UdpPorts", spec := "udpPorts", unfollowed := true, recurses := true, apart := false }
def UdpPortsSaid : Prop := udpPortsRow.holds Try.pinned (OpenSpec.ofChange udpPortsSpec)

/-- ITS FALSE NEIGHBOUR: 'it returns false'. Refute it at one input. -/
def udpPortsWrong : ChangeSpec := { name := "udpPorts", fn := fun _ => fun
  | [d1, d2, d3, d4] => { results := [.lit (.bool false)], args := [d1, d2, d3, d4] }
  | _ => none }
def UdpPortsWrongFalsely : Prop := udpPortsRow.holds Try.pinned (OpenSpec.ofChange udpPortsWrong)

/-- 'weighbridgelaw07.IcmpBuilds': WHATEVER THE INPUT: true; the input reads as it did. -/
def icmpBuildsSpec : ChangeSpec := { name := "icmpBuilds", fn := fun _ => fun
  | [d1, d2] => { results := [.lit (.bool true)], args := [d1, d2] }
  | _ => none }
def icmpBuildsRow : OpenClaim := { program := "ythmpmladneiegaa", sum := "885c28958353b8b0deee4590c9f3d3e8d38be8af0799665efee9a185d23865a6", func := "weighbridge/weighbridgelaw07.IcmpBuilds", spec := "icmpBuilds", unfollowed := true, recurses := true, apart := false }
def IcmpBuildsSaid : Prop := icmpBuildsRow.holds Try.pinned (OpenSpec.ofChange icmpBuildsSpec)

/-- ITS FALSE NEIGHBOUR: 'it returns false'. Refute it at one input. -/
def icmpBuildsWrong : ChangeSpec := { name := "icmpBuilds", fn := fun _ => fun
  | [d1, d2] => { results := [.lit (.bool false)], args := [d1, d2] }
  | _ => none }
def IcmpBuildsWrongFalsely : Prop := icmpBuildsRow.holds Try.pinned (OpenSpec.ofChange icmpBuildsWrong)

/-- 'weighbridgelaw07.IcmpParses': WHATEVER THE INPUT: true; the input reads as it did. -/
def icmpParsesSpec : ChangeSpec := { name := "icmpParses", fn := fun _ => fun
  | [d1, d2, d3, d4, d5] => { results := [.lit (.bool true)], args := [d1, d2, d3, d4, d5] }
  | _ => none }
def icmpParsesRow : OpenClaim := { program := "ythmpmladneiegaa", sum := "885c28958353b8b0deee4590c9f3d3e8d38be8af0799665efee9a185d23865a6", func := "weighbridge/weighbridgelaw07.IcmpParses", spec := "icmpParses", unfollowed := true, recurses := true, apart := false }
def IcmpParsesSaid : Prop := icmpParsesRow.holds Try.pinned (OpenSpec.ofChange icmpParsesSpec)

/-- ITS FALSE NEIGHBOUR: 'it returns false'. Refute it at one input. -/
def icmpParsesWrong : ChangeSpec := { name := "icmpParses", fn := fun _ => fun
  | [d1, d2, d3, d4, d5] => { results := [.lit (.bool false)], args := [d1, d2, d3, d4, d5] }
  | _ => none }
def IcmpParsesWrongFalsely : Prop := icmpParsesRow.holds Try.pinned (OpenSpec.ofChange icmpParsesWrong)

/-- 'weighbridgelaw07.IcmpBack': WHATEVER THE INPUT: true; the input reads as it did. -/
def icmpBackSpec : ChangeSpec := { name := "icmpBack", fn := fun _ => fun
  | [d1, d2, d3, d4, d5] => { results := [.lit (.bool true)], args := [d1, d2, d3, d4, d5] }
  | _ => none }
def icmpBackRow : OpenClaim := { program := "ythmpmladneiegaa", sum := "885c28958353b8b0deee4590c9f3d3e8d38be8af0799665efee9a185d23865a6", func := "weighbridge/weighbridgelaw07.IcmpBack", spec := "icmpBack", unfollowed := true, recurses := true, apart := false }
def IcmpBackSaid : Prop := icmpBackRow.holds Try.pinned (OpenSpec.ofChange icmpBackSpec)

/-- ITS FALSE NEIGHBOUR: 'it returns false'. Refute it at one input. -/
def icmpBackWrong : ChangeSpec := { name := "icmpBack", fn := fun _ => fun
  | [d1, d2, d3, d4, d5] => { results := [.lit (.bool false)], args := [d1, d2, d3, d4, d5] }
  | _ => none }
def IcmpBackWrongFalsely : Prop := icmpBackRow.holds Try.pinned (OpenSpec.ofChange icmpBackWrong)

/-- 'weighbridgelaw07.IcmpKinds': WHATEVER THE INPUT: true; the input reads as it did. -/
def icmpKindsSpec : ChangeSpec := { name := "icmpKinds", fn := fun _ => fun
  | [d1, d2, d3] => { results := [.lit (.bool true)], args := [d1, d2, d3] }
  | _ => none }
def icmpKindsRow : OpenClaim := { program := "ythmpmladneiegaa", sum := "885c28958353b8b0deee4590c9f3d3e8d38be8af0799665efee9a185d23865a6", func := "weighbridge/weighbridgelaw07.IcmpKinds", spec := "icmpKinds", unfollowed := true, recurses := true, apart := false }
def IcmpKindsSaid : Prop := icmpKindsRow.holds Try.pinned (OpenSpec.ofChange icmpKindsSpec)

/-- ITS FALSE NEIGHBOUR: 'it returns false'. Refute it at one input. -/
def icmpKindsWrong : ChangeSpec := { name := "icmpKinds", fn := fun _ => fun
  | [d1, d2, d3] => { results := [.lit (.bool false)], args := [d1, d2, d3] }
  | _ => none }
def IcmpKindsWrongFalsely : Prop := icmpKindsRow.holds Try.pinned (OpenSpec.ofChange icmpKindsWrong)

/-- 'weighbridgelaw07.IcmpCut': WHATEVER THE INPUT: true; the input reads as it did. -/
def icmpCutSpec : ChangeSpec := { name := "icmpCut", fn := fun _ => fun
  | [d1, d2, d3] => { results := [.lit (.bool true)], args := [d1, d2, d3] }
  | _ => none }
def icmpCutRow : OpenClaim := { program := "ythmpmladneiegaa", sum := "885c28958353b8b0deee4590c9f3d3e8d38be8af0799665efee9a185d23865a6", func := "weighbridge/weighbridgelaw07.IcmpCut", spec := "icmpCut", unfollowed := true, recurses := true, apart := false }
def IcmpCutSaid : Prop := icmpCutRow.holds Try.pinned (OpenSpec.ofChange icmpCutSpec)

/-- ITS FALSE NEIGHBOUR: 'it returns false'. Refute it at one input. -/
def icmpCutWrong : ChangeSpec := { name := "icmpCut", fn := fun _ => fun
  | [d1, d2, d3] => { results := [.lit (.bool false)], args := [d1, d2, d3] }
  | _ => none }
def IcmpCutWrongFalsely : Prop := icmpCutRow.holds Try.pinned (OpenSpec.ofChange icmpCutWrong)

/- THE SECOND FORM. 'bulk': how many values and letters a reading holds, each counted each time it is reached (what is shared counts as often as it is met; a slice's spare places count too). A statement '..UptoSaid' is the law's where the arguments, and the package variables that the reading takes, are together of bulk at most 1048576: NARROWER than '..Said'. Prove '..Said' where nothing that the law and all that it calls make is longer than what came in: it says more and counts as full. Else prove '..UptoSaid'. A law counts once. -/
mutual
def uptoBulk {H : Type} : DataW H → Nat
  | .lit (.string bytes) => bytes.length + 1
  | .lit _ => 1
  | .nil => 1
  | .ptr d => uptoBulk d + 1
  | .slice elems spare => uptoBulkAll elems + uptoBulkAll spare + 1
  | .agg parts => uptoBulkAll parts + 1
  | .iface _ d => uptoBulk d + 1
  | .map entries => uptoBulkEntries entries + 1
  | .held _ => 1
def uptoBulkAll {H : Type} : List (DataW H) → Nat
  | [] => 0
  | d :: r => uptoBulk d + uptoBulkAll r
def uptoBulkEntries {H : Type} : List (Lit × DataW H) → Nat
  | [] => 0
  | x :: r => uptoBulkEntry x + uptoBulkEntries r
def uptoBulkEntry {H : Type} : Lit × DataW H → Nat
  | (.string bytes, d) => bytes.length + uptoBulk d + 1
  | (_, d) => uptoBulk d + 1
 end
def uptoSmall : (H : Type) → List (DataW H) → Bool := fun _ ds => decide (uptoBulkAll ds ≤ 1048576)
def OpenSpec.upto (s : _root_.Go.ChangeSpec) : _root_.Go.OpenSpec := { _root_.Go.OpenSpec.ofChange s with cond := some uptoSmall }

/-- 'weighbridgelaw06.UdpBuilds', WHERE WHAT IT READS IS OF BULK AT MOST 1048576: true; the input reads as it did. -/
def udpBuildsUptoRow : OpenClaim := { program := "ythmpmladneiegaa", sum := "885c28958353b8b0deee4590c9f3d3e8d38be8af0799665efee9a185d23865a6", func := "weighbridge/weighbridgelaw06.UdpBuilds", spec := "udpBuilds", unfollowed := true, recurses := true, apart := false, narrowed := true }
def UdpBuildsUptoSaid : Prop := udpBuildsUptoRow.holds Try.pinned (OpenSpec.upto udpBuildsSpec)

/-- 'weighbridgelaw06.UdpParses', WHERE WHAT IT READS IS OF BULK AT MOST 1048576: true; the input reads as it did. -/
def udpParsesUptoRow : OpenClaim := { program := "ythmpmladneiegaa", sum := "885c28958353b8b0deee4590c9f3d3e8d38be8af0799665efee9a185d23865a6", func := "weighbridge/weighbridgelaw06.UdpParses", spec := "udpParses", unfollowed := true, recurses := true, apart := false, narrowed := true }
def UdpParsesUptoSaid : Prop := udpParsesUptoRow.holds Try.pinned (OpenSpec.upto udpParsesSpec)

/-- 'weighbridgelaw06.UdpBack', WHERE WHAT IT READS IS OF BULK AT MOST 1048576: true; the input reads as it did. -/
def udpBackUptoRow : OpenClaim := { program := "ythmpmladneiegaa", sum := "885c28958353b8b0deee4590c9f3d3e8d38be8af0799665efee9a185d23865a6", func := "weighbridge/weighbridgelaw06.UdpBack", spec := "udpBack", unfollowed := true, recurses := true, apart := false, narrowed := true }
def UdpBackUptoSaid : Prop := udpBackUptoRow.holds Try.pinned (OpenSpec.upto udpBackSpec)

/-- 'weighbridgelaw06.UdpLong', WHERE WHAT IT READS IS OF BULK AT MOST 1048576: true; the input reads as it did. -/
def udpLongUptoRow : OpenClaim := { program := "ythmpmladneiegaa", sum := "885c28958353b8b0deee4590c9f3d3e8d38be8af0799665efee9a185d23865a6", func := "weighbridge/weighbridgelaw06.UdpLong", spec := "udpLong", unfollowed := true, recurses := true, apart := false, narrowed := true }
def UdpLongUptoSaid : Prop := udpLongUptoRow.holds Try.pinned (OpenSpec.upto udpLongSpec)

/-- 'weighbridgelaw06.UdpLength', WHERE WHAT IT READS IS OF BULK AT MOST 1048576: true; the input reads as it did. -/
def udpLengthUptoRow : OpenClaim := { program := "ythmpmladneiegaa", sum := "885c28958353b8b0deee4590c9f3d3e8d38be8af0799665efee9a185d23865a6", func := "weighbridge/weighbridgelaw06.UdpLength", spec := "udpLength", unfollowed := true, recurses := true, apart := false, narrowed := true }
def UdpLengthUptoSaid : Prop := udpLengthUptoRow.holds Try.pinned (OpenSpec.upto udpLengthSpec)

/-- 'weighbridgelaw06.UdpPorts', WHERE WHAT IT READS IS OF BULK AT MOST 1048576: true; the input reads as it did. -/
def udpPortsUptoRow : OpenClaim := { program := "ythmpmladneiegaa", sum := "885c28958353b8b0deee4590c9f3d3e8d38be8af0799665efee9a185d23865a6", func := "weighbridge/weighbridgelaw06.UdpPorts", spec := "udpPorts", unfollowed := true, recurses := true, apart := false, narrowed := true }
def UdpPortsUptoSaid : Prop := udpPortsUptoRow.holds Try.pinned (OpenSpec.upto udpPortsSpec)

/-- 'weighbridgelaw07.IcmpBuilds', WHERE WHAT IT READS IS OF BULK AT MOST 1048576: true; the input reads as it did. -/
def icmpBuildsUptoRow : OpenClaim := { program := "ythmpmladneiegaa", sum := "885c28958353b8b0deee4590c9f3d3e8d38be8af0799665efee9a185d23865a6", func := "weighbridge/weighbridgelaw07.IcmpBuilds", spec := "icmpBuilds", unfollowed := true, recurses := true, apart := false, narrowed := true }
def IcmpBuildsUptoSaid : Prop := icmpBuildsUptoRow.holds Try.pinned (OpenSpec.upto icmpBuildsSpec)

/-- 'weighbridgelaw07.IcmpParses', WHERE WHAT IT READS IS OF BULK AT MOST 1048576: true; the input reads as it did. -/
def icmpParsesUptoRow : OpenClaim := { program := "ythmpmladneiegaa", sum := "885c28958353b8b0deee4590c9f3d3e8d38be8af0799665efee9a185d23865a6", func := "weighbridge/weighbridgelaw07.IcmpParses", spec := "icmpParses", unfollowed := true, recurses := true, apart := false, narrowed := true }
def IcmpParsesUptoSaid : Prop := icmpParsesUptoRow.holds Try.pinned (OpenSpec.upto icmpParsesSpec)

/-- 'weighbridgelaw07.IcmpBack', WHERE WHAT IT READS IS OF BULK AT MOST 1048576: true; the input reads as it did. -/
def icmpBackUptoRow : OpenClaim := { program := "ythmpmladneiegaa", sum := "885c28958353b8b0deee4590c9f3d3e8d38be8af0799665efee9a185d23865a6", func := "weighbridge/weighbridgelaw07.IcmpBack", spec := "icmpBack", unfollowed := true, recurses := true, apart := false, narrowed := true }
def IcmpBackUptoSaid : Prop := icmpBackUptoRow.holds Try.pinned (OpenSpec.upto icmpBackSpec)

/-- 'weighbridgelaw07.IcmpKinds', WHERE WHAT IT READS IS OF BULK AT MOST 1048576: true; the input reads as it did. -/
def icmpKindsUptoRow : OpenClaim := { program := "ythmpmladneiegaa", sum := "885c28958353b8b0deee4590c9f3d3e8d38be8af0799665efee9a185d23865a6", func := "weighbridge/weighbridgelaw07.IcmpKinds", spec := "icmpKinds", unfollowed := true, recurses := true, apart := false, narrowed := true }
def IcmpKindsUptoSaid : Prop := icmpKindsUptoRow.holds Try.pinned (OpenSpec.upto icmpKindsSpec)

/-- 'weighbridgelaw07.IcmpCut', WHERE WHAT IT READS IS OF BULK AT MOST 1048576: true; the input reads as it did. -/
def icmpCutUptoRow : OpenClaim := { program := "ythmpmladneiegaa", sum := "885c28958353b8b0deee4590c9f3d3e8d38be8af0799665efee9a185d23865a6", func := "weighbridge/weighbridgelaw07.IcmpCut", spec := "icmpCut", unfollowed := true, recurses := true, apart := false, narrowed := true }
def IcmpCutUptoSaid : Prop := icmpCutUptoRow.holds Try.pinned (OpenSpec.upto icmpCutSpec)

end Rows
end Go.Proofs.Ythmpmladneiegaa
