/- Any check is gone on with, with any words, alike by both texts. -/
import Derived.Test.YtkdmdnihkhhpiaaPr15
import Derived.Test.YtkdmdnihkhhpiaaLem
set_option linter.unusedVariables false
set_option linter.unusedSimpArgs false
namespace Go.Proofs.Ytkdmdnihkhhpiaa.Pure
open Go.RowKit Go.Proofs.Ytkdmdnihkhhpiaa.Pr Go.Proofs.Ytkdmdnihkhhpiaa.Sp Go.Proofs.Ytkdmdnihkhhpiaa.Lem Go.Proofs.YtkdmdnihkhhpiaaW.PrintWords Go.Proofs.YtkdmdnihkhhpiaaW.PrintLast Go.Proofs.YtkdmdnihkhhpiaaW.PrintMore

theorem examples_true : weighbridgelaw03_examples.f = some true := by kernel_rfl
theorem CksumUpdates : weighbridgelaw03_CksumUpdates.Pure := by
  intro c o n a b w0 w1 w2 w3 w4
  unfold weighbridgelaw03_CksumUpdates.f
  rw [examples_true]
  simp only [Option.bind_some, if_true]
  rw [cksum_Update_eq (wf_u16 w0) (wf_u16 w1) (wf_u16 w2), weighbridgeref03_Update_eq (wf_u16 w0) (wf_u16 w1) (wf_u16 w2), cksum_Update32_eq (wf_u16 w0) (wf_u32 w3) (wf_u32 w4), weighbridgeref03_Update32_eq (wf_u16 w0) (wf_u32 w3) (wf_u32 w4)]
  simp

end Go.Proofs.Ytkdmdnihkhhpiaa.Pure
