/-
  No cell of these rows narrows 'for every input' (looked for: loops, veiled, ifaces, maps, wideKeys, modest, calm, conditions, laid).
  DERIVED. THE GIVEN ROWS OF THIS SEAT. 6 by the template 'for every input the law returns true; each argument reads behind the call as it read before'; 0 by the template 'total and deterministic' (their statements: YtfnjohklmpiboaaTotals.lean).
  GIVEN WITH THE SEED: the statements are not yours to turn. If you find one false, say at which input.
  Laid BY PROGRAM, IN A SANDBOX (cutbox-rows.mjs): the forced cells as the released guide's own fill.sh prints them over the translation 7981ee35818017be… (all of the seat's roots in one cut). By AI agents, Wed Nov 11 2026. No macro, syntax, notation, axiom, sorry.
-/
import Derived.Test.YtfnjohklmpiboaaChecked
import GoSem.Claim
import GoSem.ClaimJoined
import GoSem.ClaimMapViews
import Derived.JoinedTies
import Derived.KernelRfl
namespace Go.Proofs.Ytfnjohklmpiboaa
/- THE CELL 'sum', in the pinned program and in every row, IS THE sha256 OF THE DUMP (.gsa) THAT YtfnjohklmpiboaaProg.lean LOADS. Nothing in Lean hashes anything: it is a label: what it is worth is what the hold of that sum in a sandbox is worth. -/
noncomputable def Try.pinned : Pinned := { name := "ytfnjohklmpiboaa", sum := "7981ee35818017beece5edc7ffbef0cc62d64598e32f3833037423ef0499d9ae", checked := Try.checked }
namespace Rows
def none {H : Type} : Left H := { results := [], args := [] }

/-- 'weighbridgelaw10.PatchPlain': WHATEVER THE INPUT: true; the input reads as it did. -/
def patchPlainSpec : ChangeSpec := { name := "patchPlain", fn := fun _ => fun
  | [d1, d2, d3, d4, d5] => { results := [.lit (.bool true)], args := [d1, d2, d3, d4, d5] }
  | _ => none }
def patchPlainRow : OpenClaim := { program := "ytfnjohklmpiboaa", sum := "7981ee35818017beece5edc7ffbef0cc62d64598e32f3833037423ef0499d9ae", func := "weighbridge/weighbridgelaw10.PatchPlain", spec := "patchPlain", unfollowed := true, recurses := true, apart := false }
def PatchPlainSaid : Prop := patchPlainRow.holds Try.pinned (OpenSpec.ofChange patchPlainSpec)

/-- ITS FALSE NEIGHBOUR: 'it returns false'. Refute it at one input. -/
def patchPlainWrong : ChangeSpec := { name := "patchPlain", fn := fun _ => fun
  | [d1, d2, d3, d4, d5] => { results := [.lit (.bool false)], args := [d1, d2, d3, d4, d5] }
  | _ => none }
def PatchPlainWrongFalsely : Prop := patchPlainRow.holds Try.pinned (OpenSpec.ofChange patchPlainWrong)

/-- 'weighbridgelaw10.PatchBack': WHATEVER THE INPUT: true; the input reads as it did. -/
def patchBackSpec : ChangeSpec := { name := "patchBack", fn := fun _ => fun
  | [d1, d2, d3, d4, d5] => { results := [.lit (.bool true)], args := [d1, d2, d3, d4, d5] }
  | _ => none }
def patchBackRow : OpenClaim := { program := "ytfnjohklmpiboaa", sum := "7981ee35818017beece5edc7ffbef0cc62d64598e32f3833037423ef0499d9ae", func := "weighbridge/weighbridgelaw10.PatchBack", spec := "patchBack", unfollowed := true, recurses := true, apart := false }
def PatchBackSaid : Prop := patchBackRow.holds Try.pinned (OpenSpec.ofChange patchBackSpec)

/-- ITS FALSE NEIGHBOUR: 'it returns false'. Refute it at one input. -/
def patchBackWrong : ChangeSpec := { name := "patchBack", fn := fun _ => fun
  | [d1, d2, d3, d4, d5] => { results := [.lit (.bool false)], args := [d1, d2, d3, d4, d5] }
  | _ => none }
def PatchBackWrongFalsely : Prop := patchBackRow.holds Try.pinned (OpenSpec.ofChange patchBackWrong)

/-- 'weighbridgelaw10.PatchSame': WHATEVER THE INPUT: true; the input reads as it did. -/
def patchSameSpec : ChangeSpec := { name := "patchSame", fn := fun _ => fun
  | [d1, d2, d3, d4, d5] => { results := [.lit (.bool true)], args := [d1, d2, d3, d4, d5] }
  | _ => none }
def patchSameRow : OpenClaim := { program := "ytfnjohklmpiboaa", sum := "7981ee35818017beece5edc7ffbef0cc62d64598e32f3833037423ef0499d9ae", func := "weighbridge/weighbridgelaw10.PatchSame", spec := "patchSame", unfollowed := true, recurses := true, apart := false }
def PatchSameSaid : Prop := patchSameRow.holds Try.pinned (OpenSpec.ofChange patchSameSpec)

/-- ITS FALSE NEIGHBOUR: 'it returns false'. Refute it at one input. -/
def patchSameWrong : ChangeSpec := { name := "patchSame", fn := fun _ => fun
  | [d1, d2, d3, d4, d5] => { results := [.lit (.bool false)], args := [d1, d2, d3, d4, d5] }
  | _ => none }
def PatchSameWrongFalsely : Prop := patchSameRow.holds Try.pinned (OpenSpec.ofChange patchSameWrong)

/-- 'weighbridgelaw10.PatchInside': WHATEVER THE INPUT: true; the input reads as it did. -/
def patchInsideSpec : ChangeSpec := { name := "patchInside", fn := fun _ => fun
  | [d1, d2, d3, d4, d5] => { results := [.lit (.bool true)], args := [d1, d2, d3, d4, d5] }
  | _ => none }
def patchInsideRow : OpenClaim := { program := "ytfnjohklmpiboaa", sum := "7981ee35818017beece5edc7ffbef0cc62d64598e32f3833037423ef0499d9ae", func := "weighbridge/weighbridgelaw10.PatchInside", spec := "patchInside", unfollowed := true, recurses := true, apart := false }
def PatchInsideSaid : Prop := patchInsideRow.holds Try.pinned (OpenSpec.ofChange patchInsideSpec)

/-- ITS FALSE NEIGHBOUR: 'it returns false'. Refute it at one input. -/
def patchInsideWrong : ChangeSpec := { name := "patchInside", fn := fun _ => fun
  | [d1, d2, d3, d4, d5] => { results := [.lit (.bool false)], args := [d1, d2, d3, d4, d5] }
  | _ => none }
def PatchInsideWrongFalsely : Prop := patchInsideRow.holds Try.pinned (OpenSpec.ofChange patchInsideWrong)

/-- 'weighbridgelaw10.PatchRefuses': WHATEVER THE INPUT: true; the input reads as it did. -/
def patchRefusesSpec : ChangeSpec := { name := "patchRefuses", fn := fun _ => fun
  | [d1, d2, d3] => { results := [.lit (.bool true)], args := [d1, d2, d3] }
  | _ => none }
def patchRefusesRow : OpenClaim := { program := "ytfnjohklmpiboaa", sum := "7981ee35818017beece5edc7ffbef0cc62d64598e32f3833037423ef0499d9ae", func := "weighbridge/weighbridgelaw10.PatchRefuses", spec := "patchRefuses", unfollowed := true, recurses := true, apart := false }
def PatchRefusesSaid : Prop := patchRefusesRow.holds Try.pinned (OpenSpec.ofChange patchRefusesSpec)

/-- ITS FALSE NEIGHBOUR: 'it returns false'. Refute it at one input. -/
def patchRefusesWrong : ChangeSpec := { name := "patchRefuses", fn := fun _ => fun
  | [d1, d2, d3] => { results := [.lit (.bool false)], args := [d1, d2, d3] }
  | _ => none }
def PatchRefusesWrongFalsely : Prop := patchRefusesRow.holds Try.pinned (OpenSpec.ofChange patchRefusesWrong)

/-- 'weighbridgelaw10.PatchPads': WHATEVER THE INPUT: true; the input reads as it did. -/
def patchPadsSpec : ChangeSpec := { name := "patchPads", fn := fun _ => fun
  | [d1, d2] => { results := [.lit (.bool true)], args := [d1, d2] }
  | _ => none }
def patchPadsRow : OpenClaim := { program := "ytfnjohklmpiboaa", sum := "7981ee35818017beece5edc7ffbef0cc62d64598e32f3833037423ef0499d9ae", func := "weighbridge/weighbridgelaw10.PatchPads", spec := "patchPads", unfollowed := true, recurses := true, apart := false }
def PatchPadsSaid : Prop := patchPadsRow.holds Try.pinned (OpenSpec.ofChange patchPadsSpec)

/-- ITS FALSE NEIGHBOUR: 'it returns false'. Refute it at one input. -/
def patchPadsWrong : ChangeSpec := { name := "patchPads", fn := fun _ => fun
  | [d1, d2] => { results := [.lit (.bool false)], args := [d1, d2] }
  | _ => none }
def PatchPadsWrongFalsely : Prop := patchPadsRow.holds Try.pinned (OpenSpec.ofChange patchPadsWrong)

/- THE SECOND FORM. 'bulk': how many values and letters a reading holds, each counted each time it is reached (what is shared counts as often as it is met; a slice's spare places count too). A statement '..UptoSaid' is the law's where the arguments, and the package variables that the reading takes, are together of bulk at most 1048576: NARROWER than '..Said'. Prove '..Said' where nothing that the law and all that it calls make is longer than what came in: it says more and counts as full. Else prove '..UptoSaid'. A law counts once. -/
mutual
def uptoBulk {H : Type} : DataW H → Nat
  | .lit (.string bytes) => bytes.length + 1
  | .lit _ => 1
  | .nil => 1
  | .ptr d => uptoBulk d + 1
  | .slice elems spare => uptoBulkAll elems + uptoBulkAll spare + 1
  | .agg parts => uptoBulkAll parts + 1
  | .iface _ d => uptoBulk d + 1
  | .map entries => uptoBulkEntries entries + 1
  | .held _ => 1
def uptoBulkAll {H : Type} : List (DataW H) → Nat
  | [] => 0
  | d :: r => uptoBulk d + uptoBulkAll r
def uptoBulkEntries {H : Type} : List (Lit × DataW H) → Nat
  | [] => 0
  | x :: r => uptoBulkEntry x + uptoBulkEntries r
def uptoBulkEntry {H : Type} : Lit × DataW H → Nat
  | (.string bytes, d) => bytes.length + uptoBulk d + 1
  | (_, d) => uptoBulk d + 1
 end
def uptoSmall : (H : Type) → List (DataW H) → Bool := fun _ ds => decide (uptoBulkAll ds ≤ 1048576)
def OpenSpec.upto (s : _root_.Go.ChangeSpec) : _root_.Go.OpenSpec := { _root_.Go.OpenSpec.ofChange s with cond := some uptoSmall }

/-- 'weighbridgelaw10.PatchPlain', WHERE WHAT IT READS IS OF BULK AT MOST 1048576: true; the input reads as it did. -/
def patchPlainUptoRow : OpenClaim := { program := "ytfnjohklmpiboaa", sum := "7981ee35818017beece5edc7ffbef0cc62d64598e32f3833037423ef0499d9ae", func := "weighbridge/weighbridgelaw10.PatchPlain", spec := "patchPlain", unfollowed := true, recurses := true, apart := false, narrowed := true }
def PatchPlainUptoSaid : Prop := patchPlainUptoRow.holds Try.pinned (OpenSpec.upto patchPlainSpec)

/-- 'weighbridgelaw10.PatchBack', WHERE WHAT IT READS IS OF BULK AT MOST 1048576: true; the input reads as it did. -/
def patchBackUptoRow : OpenClaim := { program := "ytfnjohklmpiboaa", sum := "7981ee35818017beece5edc7ffbef0cc62d64598e32f3833037423ef0499d9ae", func := "weighbridge/weighbridgelaw10.PatchBack", spec := "patchBack", unfollowed := true, recurses := true, apart := false, narrowed := true }
def PatchBackUptoSaid : Prop := patchBackUptoRow.holds Try.pinned (OpenSpec.upto patchBackSpec)

/-- 'weighbridgelaw10.PatchSame', WHERE WHAT IT READS IS OF BULK AT MOST 1048576: true; the input reads as it did. -/
def patchSameUptoRow : OpenClaim := { program := "ytfnjohklmpiboaa", sum := "7981ee35818017beece5edc7ffbef0cc62d64598e32f3833037423ef0499d9ae", func := "weighbridge/weighbridgelaw10.PatchSame", spec := "patchSame", unfollowed := true, recurses := true, apart := false, narrowed := true }
def PatchSameUptoSaid : Prop := patchSameUptoRow.holds Try.pinned (OpenSpec.upto patchSameSpec)

/-- 'weighbridgelaw10.PatchInside', WHERE WHAT IT READS IS OF BULK AT MOST 1048576: true; the input reads as it did. -/
def patchInsideUptoRow : OpenClaim := { program := "ytfnjohklmpiboaa", sum := "7981ee35818017beece5edc7ffbef0cc62d64598e32f3833037423ef0499d9ae", func := "weighbridge/weighbridgelaw10.PatchInside", spec := "patchInside", unfollowed := true, recurses := true, apart := false, narrowed := true }
def PatchInsideUptoSaid : Prop := patchInsideUptoRow.holds Try.pinned (OpenSpec.upto patchInsideSpec)

/-- 'weighbridgelaw10.PatchRefuses', WHERE WHAT IT READS IS OF BULK AT MOST 1048576: true; the input reads as it did. -/
def patchRefusesUptoRow : OpenClaim := { program := "ytfnjohklmpiboaa", sum := "7981ee35818017beece5edc7ffbef0cc62d64598e32f3833037423ef0499d9ae", func := "weighbridge/weighbridgelaw10.PatchRefuses", spec := "patchRefuses", unfollowed := true, recurses := true, apart := false, narrowed := true }
def PatchRefusesUptoSaid : Prop := patchRefusesUptoRow.holds Try.pinned (OpenSpec.upto patchRefusesSpec)

/-- 'weighbridgelaw10.PatchPads', WHERE WHAT IT READS IS OF BULK AT MOST 1048576: true; the input reads as it did. -/
def patchPadsUptoRow : OpenClaim := { program := "ytfnjohklmpiboaa", sum := "7981ee35818017beece5edc7ffbef0cc62d64598e32f3833037423ef0499d9ae", func := "weighbridge/weighbridgelaw10.PatchPads", spec := "patchPads", unfollowed := true, recurses := true, apart := false, narrowed := true }
def PatchPadsUptoSaid : Prop := patchPadsUptoRow.holds Try.pinned (OpenSpec.upto patchPadsSpec)

end Rows
end Go.Proofs.Ytfnjohklmpiboaa
