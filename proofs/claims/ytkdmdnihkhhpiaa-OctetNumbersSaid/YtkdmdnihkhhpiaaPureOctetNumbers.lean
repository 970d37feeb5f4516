/- Any bytes at any place are a number, or none, and any number is written there, or not, alike by both texts: both come to the same plain words. -/
import Derived.Test.YtkdmdnihkhhpiaaPr11
import Derived.Test.YtkdmdnihkhhpiaaLem
set_option linter.unusedVariables false
set_option linter.unusedSimpArgs false
namespace Go.Proofs.Ytkdmdnihkhhpiaa.Pure
open Go.RowKit Go.Proofs.Ytkdmdnihkhhpiaa.Pr Go.Proofs.Ytkdmdnihkhhpiaa.Sp Go.Proofs.Ytkdmdnihkhhpiaa.Lem Go.Proofs.YtkdmdnihkhhpiaaW.PrintWords Go.Proofs.YtkdmdnihkhhpiaaW.PrintLast Go.Proofs.YtkdmdnihkhhpiaaW.PrintMore

theorem examples_true : weighbridgelaw01_examples.f = some true := by kernel_rfl
theorem OctetNumbers : weighbridgelaw01_OctetNumbers.Pure := by
  intro s at_ sz n hs w1 w2 w3
  have b3 := wf_i64 w3
  unfold weighbridgelaw01_OctetNumbers.f
  rw [examples_true]
  simp only [Option.bind_some, if_true]
  rw [octet_Get_eq _ _ _ (by omega), weighbridgeref01_Get_eq _ _ _ (by omega), octet_Set_eq _ _ _ _ (by omega), weighbridgeref01_Set_eq _ _ _ _ (by omega) b3.1 b3.2, weighbridgeref01_Put_eq _ _ b3.1 b3.2]
  simp [octet_Put.f]

end Go.Proofs.Ytkdmdnihkhhpiaa.Pure
