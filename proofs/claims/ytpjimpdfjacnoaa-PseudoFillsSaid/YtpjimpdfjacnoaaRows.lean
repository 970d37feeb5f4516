/-
  No cell of these rows narrows 'for every input' (looked for: loops, veiled, ifaces, maps, wideKeys, modest, calm, conditions, laid).
  DERIVED. THE GIVEN ROWS OF THIS SEAT. 6 by the template 'for every input the law returns true; each argument reads behind the call as it read before'; 0 by the template 'total and deterministic' (their statements: YtpjimpdfjacnoaaTotals.lean).
  GIVEN WITH THE SEED: the statements are not yours to turn. If you find one false, say at which input.
  Laid BY PROGRAM, IN A SANDBOX (cutbox-rows.mjs): the forced cells as the released guide's own fill.sh prints them over the translation afde7f09c172041f… (all of the seat's roots in one cut). By AI agents, Wed Nov 11 2026. No macro, syntax, notation, axiom, sorry.
-/
import Derived.Test.YtpjimpdfjacnoaaChecked
import GoSem.Claim
import GoSem.ClaimJoined
import GoSem.ClaimMapViews
import Derived.JoinedTies
import Derived.KernelRfl
namespace Go.Proofs.Ytpjimpdfjacnoaa
/- THE CELL 'sum', in the pinned program and in every row, IS THE sha256 OF THE DUMP (.gsa) THAT YtpjimpdfjacnoaaProg.lean LOADS. Nothing in Lean hashes anything: it is a label: what it is worth is what the hold of that sum in a sandbox is worth. -/
noncomputable def Try.pinned : Pinned := { name := "ytpjimpdfjacnoaa", sum := "afde7f09c172041f05c42905abee6329a23f249f55666270ff3cc21026b67621", checked := Try.checked }
namespace Rows
def none {H : Type} : Left H := { results := [], args := [] }

/-- 'weighbridgelaw08.PseudoChecks': WHATEVER THE INPUT: true; the input reads as it did. -/
def pseudoChecksSpec : ChangeSpec := { name := "pseudoChecks", fn := fun _ => fun
  | [d1, d2, d3, d4, d5] => { results := [.lit (.bool true)], args := [d1, d2, d3, d4, d5] }
  | _ => none }
def pseudoChecksRow : OpenClaim := { program := "ytpjimpdfjacnoaa", sum := "afde7f09c172041f05c42905abee6329a23f249f55666270ff3cc21026b67621", func := "weighbridge/weighbridgelaw08.PseudoChecks", spec := "pseudoChecks", unfollowed := true, recurses := true, apart := false }
def PseudoChecksSaid : Prop := pseudoChecksRow.holds Try.pinned (OpenSpec.ofChange pseudoChecksSpec)

/-- ITS FALSE NEIGHBOUR: 'it returns false'. Refute it at one input. -/
def pseudoChecksWrong : ChangeSpec := { name := "pseudoChecks", fn := fun _ => fun
  | [d1, d2, d3, d4, d5] => { results := [.lit (.bool false)], args := [d1, d2, d3, d4, d5] }
  | _ => none }
def PseudoChecksWrongFalsely : Prop := pseudoChecksRow.holds Try.pinned (OpenSpec.ofChange pseudoChecksWrong)

/-- 'weighbridgelaw08.PseudoTcp': WHATEVER THE INPUT: true; the input reads as it did. -/
def pseudoTcpSpec : ChangeSpec := { name := "pseudoTcp", fn := fun _ => fun
  | [d1, d2, d3, d4] => { results := [.lit (.bool true)], args := [d1, d2, d3, d4] }
  | _ => none }
def pseudoTcpRow : OpenClaim := { program := "ytpjimpdfjacnoaa", sum := "afde7f09c172041f05c42905abee6329a23f249f55666270ff3cc21026b67621", func := "weighbridge/weighbridgelaw08.PseudoTcp", spec := "pseudoTcp", unfollowed := true, recurses := true, apart := false }
def PseudoTcpSaid : Prop := pseudoTcpRow.holds Try.pinned (OpenSpec.ofChange pseudoTcpSpec)

/-- ITS FALSE NEIGHBOUR: 'it returns false'. Refute it at one input. -/
def pseudoTcpWrong : ChangeSpec := { name := "pseudoTcp", fn := fun _ => fun
  | [d1, d2, d3, d4] => { results := [.lit (.bool false)], args := [d1, d2, d3, d4] }
  | _ => none }
def PseudoTcpWrongFalsely : Prop := pseudoTcpRow.holds Try.pinned (OpenSpec.ofChange pseudoTcpWrong)

/-- 'weighbridgelaw08.PseudoShort': WHATEVER THE INPUT: true; the input reads as it did. -/
def pseudoShortSpec : ChangeSpec := { name := "pseudoShort", fn := fun _ => fun
  | [d1, d2] => { results := [.lit (.bool true)], args := [d1, d2] }
  | _ => none }
def pseudoShortRow : OpenClaim := { program := "ytpjimpdfjacnoaa", sum := "afde7f09c172041f05c42905abee6329a23f249f55666270ff3cc21026b67621", func := "weighbridge/weighbridgelaw08.PseudoShort", spec := "pseudoShort", unfollowed := true, recurses := true, apart := false }
def PseudoShortSaid : Prop := pseudoShortRow.holds Try.pinned (OpenSpec.ofChange pseudoShortSpec)

/-- ITS FALSE NEIGHBOUR: 'it returns false'. Refute it at one input. -/
def pseudoShortWrong : ChangeSpec := { name := "pseudoShort", fn := fun _ => fun
  | [d1, d2] => { results := [.lit (.bool false)], args := [d1, d2] }
  | _ => none }
def PseudoShortWrongFalsely : Prop := pseudoShortRow.holds Try.pinned (OpenSpec.ofChange pseudoShortWrong)

/-- 'weighbridgelaw08.PseudoFills': WHATEVER THE INPUT: true; the input reads as it did. -/
def pseudoFillsSpec : ChangeSpec := { name := "pseudoFills", fn := fun _ => fun
  | [d1, d2, d3, d4, d5, d6] => { results := [.lit (.bool true)], args := [d1, d2, d3, d4, d5, d6] }
  | _ => none }
def pseudoFillsRow : OpenClaim := { program := "ytpjimpdfjacnoaa", sum := "afde7f09c172041f05c42905abee6329a23f249f55666270ff3cc21026b67621", func := "weighbridge/weighbridgelaw08.PseudoFills", spec := "pseudoFills", unfollowed := true, recurses := true, apart := false }
def PseudoFillsSaid : Prop := pseudoFillsRow.holds Try.pinned (OpenSpec.ofChange pseudoFillsSpec)

/-- ITS FALSE NEIGHBOUR: 'it returns false'. Refute it at one input. -/
def pseudoFillsWrong : ChangeSpec := { name := "pseudoFills", fn := fun _ => fun
  | [d1, d2, d3, d4, d5, d6] => { results := [.lit (.bool false)], args := [d1, d2, d3, d4, d5, d6] }
  | _ => none }
def PseudoFillsWrongFalsely : Prop := pseudoFillsRow.holds Try.pinned (OpenSpec.ofChange pseudoFillsWrong)

/-- 'weighbridgelaw08.PseudoZero': WHATEVER THE INPUT: true; the input reads as it did. -/
def pseudoZeroSpec : ChangeSpec := { name := "pseudoZero", fn := fun _ => fun
  | [d1, d2, d3, d4, d5] => { results := [.lit (.bool true)], args := [d1, d2, d3, d4, d5] }
  | _ => none }
def pseudoZeroRow : OpenClaim := { program := "ytpjimpdfjacnoaa", sum := "afde7f09c172041f05c42905abee6329a23f249f55666270ff3cc21026b67621", func := "weighbridge/weighbridgelaw08.PseudoZero", spec := "pseudoZero", unfollowed := true, recurses := true, apart := false }
def PseudoZeroSaid : Prop := pseudoZeroRow.holds Try.pinned (OpenSpec.ofChange pseudoZeroSpec)

/-- ITS FALSE NEIGHBOUR: 'it returns false'. Refute it at one input. -/
def pseudoZeroWrong : ChangeSpec := { name := "pseudoZero", fn := fun _ => fun
  | [d1, d2, d3, d4, d5] => { results := [.lit (.bool false)], args := [d1, d2, d3, d4, d5] }
  | _ => none }
def PseudoZeroWrongFalsely : Prop := pseudoZeroRow.holds Try.pinned (OpenSpec.ofChange pseudoZeroWrong)

/-- 'weighbridgelaw08.PseudoBehind': WHATEVER THE INPUT: true; the input reads as it did. -/
def pseudoBehindSpec : ChangeSpec := { name := "pseudoBehind", fn := fun _ => fun
  | [d1, d2, d3, d4] => { results := [.lit (.bool true)], args := [d1, d2, d3, d4] }
  | _ => none }
def pseudoBehindRow : OpenClaim := { program := "ytpjimpdfjacnoaa", sum := "afde7f09c172041f05c42905abee6329a23f249f55666270ff3cc21026b67621", func := "weighbridge/weighbridgelaw08.PseudoBehind", spec := "pseudoBehind", unfollowed := true, recurses := true, apart := false }
def PseudoBehindSaid : Prop := pseudoBehindRow.holds Try.pinned (OpenSpec.ofChange pseudoBehindSpec)

/-- ITS FALSE NEIGHBOUR: 'it returns false'. Refute it at one input. -/
def pseudoBehindWrong : ChangeSpec := { name := "pseudoBehind", fn := fun _ => fun
  | [d1, d2, d3, d4] => { results := [.lit (.bool false)], args := [d1, d2, d3, d4] }
  | _ => none }
def PseudoBehindWrongFalsely : Prop := pseudoBehindRow.holds Try.pinned (OpenSpec.ofChange pseudoBehindWrong)

/- THE SECOND FORM. 'bulk': how many values and letters a reading holds, each counted each time it is reached (what is shared counts as often as it is met; a slice's spare places count too). A statement '..UptoSaid' is the law's where the arguments, and the package variables that the reading takes, are together of bulk at most 1048576: NARROWER than '..Said'. Prove '..Said' where nothing that the law and all that it calls make is longer than what came in: it says more and counts as full. Else prove '..UptoSaid'. A law counts once. -/
mutual
def uptoBulk {H : Type} : DataW H → Nat
  | .lit (.string bytes) => bytes.length + 1
  | .lit _ => 1
  | .nil => 1
  | .ptr d => uptoBulk d + 1
  | .slice elems spare => uptoBulkAll elems + uptoBulkAll spare + 1
  | .agg parts => uptoBulkAll parts + 1
  | .iface _ d => uptoBulk d + 1
  | .map entries => uptoBulkEntries entries + 1
  | .held _ => 1
def uptoBulkAll {H : Type} : List (DataW H) → Nat
  | [] => 0
  | d :: r => uptoBulk d + uptoBulkAll r
def uptoBulkEntries {H : Type} : List (Lit × DataW H) → Nat
  | [] => 0
  | x :: r => uptoBulkEntry x + uptoBulkEntries r
def uptoBulkEntry {H : Type} : Lit × DataW H → Nat
  | (.string bytes, d) => bytes.length + uptoBulk d + 1
  | (_, d) => uptoBulk d + 1
 end
def uptoSmall : (H : Type) → List (DataW H) → Bool := fun _ ds => decide (uptoBulkAll ds ≤ 1048576)
def OpenSpec.upto (s : _root_.Go.ChangeSpec) : _root_.Go.OpenSpec := { _root_.Go.OpenSpec.ofChange s with cond := some uptoSmall }

/-- 'weighbridgelaw08.PseudoChecks', WHERE WHAT IT READS IS OF BULK AT MOST 1048576: true; the input reads as it did. -/
def pseudoChecksUptoRow : OpenClaim := { program := "ytpjimpdfjacnoaa", sum := "afde7f09c172041f05c42905abee6329a23f249f55666270ff3cc21026b67621", func := "weighbridge/weighbridgelaw08.PseudoChecks", spec := "pseudoChecks", unfollowed := true, recurses := true, apart := false, narrowed := true }
def PseudoChecksUptoSaid : Prop := pseudoChecksUptoRow.holds Try.pinned (OpenSpec.upto pseudoChecksSpec)

/-- 'weighbridgelaw08.PseudoTcp', WHERE WHAT IT READS IS OF BULK AT MOST 1048576: true; the input reads as it did. -/
def pseudoTcpUptoRow : OpenClaim := { program := "ytpjimpdfjacnoaa", sum := "afde7f09c172041f05c42905abee6329a23f249f55666270ff3cc21026b67621", func := "weighbridge/weighbridgelaw08.PseudoTcp", spec := "pseudoTcp", unfollowed := true, recurses := true, apart := false, narrowed := true }
def PseudoTcpUptoSaid : Prop := pseudoTcpUptoRow.holds Try.pinned (OpenSpec.upto pseudoTcpSpec)

/-- 'weighbridgelaw08.PseudoShort', WHERE WHAT IT READS IS OF BULK AT MOST 1048576: true; the input reads as it did. -/
def pseudoShortUptoRow : OpenClaim := { program := "ytpjimpdfjacnoaa", sum := "afde7f09c172041f05c42905abee6329a23f249f55666270ff3cc21026b67621", func := "weighbridge/weighbridgelaw08.PseudoShort", spec := "pseudoShort", unfollowed := true, recurses := true, apart := false, narrowed := true }
def PseudoShortUptoSaid : Prop := pseudoShortUptoRow.holds Try.pinned (OpenSpec.upto pseudoShortSpec)

/-- 'weighbridgelaw08.PseudoFills', WHERE WHAT IT READS IS OF BULK AT MOST 1048576: true; the input reads as it did. -/
def pseudoFillsUptoRow : OpenClaim := { program := "ytpjimpdfjacnoaa", sum := "afde7f09c172041f05c42905abee6329a23f249f55666270ff3cc21026b67621", func := "weighbridge/weighbridgelaw08.PseudoFills", spec := "pseudoFills", unfollowed := true, recurses := true, apart := false, narrowed := true }
def PseudoFillsUptoSaid : Prop := pseudoFillsUptoRow.holds Try.pinned (OpenSpec.upto pseudoFillsSpec)

/-- 'weighbridgelaw08.PseudoZero', WHERE WHAT IT READS IS OF BULK AT MOST 1048576: true; the input reads as it did. -/
def pseudoZeroUptoRow : OpenClaim := { program := "ytpjimpdfjacnoaa", sum := "afde7f09c172041f05c42905abee6329a23f249f55666270ff3cc21026b67621", func := "weighbridge/weighbridgelaw08.PseudoZero", spec := "pseudoZero", unfollowed := true, recurses := true, apart := false, narrowed := true }
def PseudoZeroUptoSaid : Prop := pseudoZeroUptoRow.holds Try.pinned (OpenSpec.upto pseudoZeroSpec)

/-- 'weighbridgelaw08.PseudoBehind', WHERE WHAT IT READS IS OF BULK AT MOST 1048576: true; the input reads as it did. -/
def pseudoBehindUptoRow : OpenClaim := { program := "ytpjimpdfjacnoaa", sum := "afde7f09c172041f05c42905abee6329a23f249f55666270ff3cc21026b67621", func := "weighbridge/weighbridgelaw08.PseudoBehind", spec := "pseudoBehind", unfollowed := true, recurses := true, apart := false, narrowed := true }
def PseudoBehindUptoSaid : Prop := pseudoBehindUptoRow.holds Try.pinned (OpenSpec.upto pseudoBehindSpec)

end Rows
end Go.Proofs.Ytpjimpdfjacnoaa
