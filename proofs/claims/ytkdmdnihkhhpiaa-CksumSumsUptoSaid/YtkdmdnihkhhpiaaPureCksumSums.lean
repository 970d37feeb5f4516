/- Any text of at most 1048576 bytes, and any numbers, have alike sums by both texts. -/
import Derived.Test.YtkdmdnihkhhpiaaPr6
import Derived.Test.YtkdmdnihkhhpiaaLem
set_option linter.unusedVariables false
set_option linter.unusedSimpArgs false
namespace Go.Proofs.Ytkdmdnihkhhpiaa.Pure
open Go.RowKit Go.Proofs.Ytkdmdnihkhhpiaa.Pr Go.Proofs.Ytkdmdnihkhhpiaa.Sp Go.Proofs.Ytkdmdnihkhhpiaa.Lem Go.Proofs.YtkdmdnihkhhpiaaW.PrintWords Go.Proofs.YtkdmdnihkhhpiaaW.PrintLast Go.Proofs.YtkdmdnihkhhpiaaW.PrintMore

theorem examples_true : weighbridgelaw03_examples.f = some true := by kernel_rfl
theorem CksumSumsU : weighbridgelaw03_CksumSums.PureU := by
  intro s n l hs w1 h1 h2 h3
  have b := wf_u64 w1
  have hl : ∀ x ∈ l, 0 ≤ x ∧ x ≤ 65535 := fun x hx => wf_u16 (h3 x hx)
  unfold weighbridgelaw03_CksumSums.f
  rw [examples_true, Option.bind_some, if_pos rfl, cksum_Fold_eq b.1 b.2, weighbridgeref03_Fold_eq b.1 b.2, Option.bind_some, Option.bind_some, if_pos rfl, cksum_Sum_eq (by omega), weighbridgeref03_Sum_eq (by omega), Option.bind_some, Option.bind_some, if_pos rfl,
    cksum_Check_eq (by omega), weighbridgeref03_Check_eq (by omega), Option.bind_some, Option.bind_some, if_pos rfl, cksum_Join_eq (by omega) hl, weighbridgeref03_Join_eq (by omega) hl, Option.bind_some, Option.bind_some, beq_self_eq_true]

end Go.Proofs.Ytkdmdnihkhhpiaa.Pure
