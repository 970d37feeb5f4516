/- A sum that is carried round is the same modulo 65535, and is 0 of 0 alone; carried round twice it is the same. -/
import Derived.Test.YtkdmdnihkhhpiaaPr8
import Derived.Test.YtkdmdnihkhhpiaaLem
set_option linter.unusedVariables false
set_option linter.unusedSimpArgs false
namespace Go.Proofs.Ytkdmdnihkhhpiaa.Pure
open Go.RowKit Go.Proofs.Ytkdmdnihkhhpiaa.Pr Go.Proofs.Ytkdmdnihkhhpiaa.Sp Go.Proofs.Ytkdmdnihkhhpiaa.Lem Go.Proofs.YtkdmdnihkhhpiaaW.PrintWords Go.Proofs.YtkdmdnihkhhpiaaW.PrintLast Go.Proofs.YtkdmdnihkhhpiaaW.PrintMore

theorem examples_true : weighbridgelaw03_examples.f = some true := by kernel_rfl
theorem CksumFolds : weighbridgelaw03_CksumFolds.Pure := by
  intro n w0
  have b := wf_u64 w0
  have hb := fold16_bounds b.1
  unfold weighbridgelaw03_CksumFolds.f
  rw [examples_true]
  simp only [Option.bind_some, if_true]
  rw [cksum_Fold_eq b.1 b.2, Option.bind_some, wu64 hb.1 (by omega), tm _ hb.1, tm _ b.1, if_pos (fold16_mod b.1), cksum_Fold_eq hb.1 (by omega), Option.bind_some, fold16_idem b.1, wu64 hb.1 (by omega), if_pos]
  · simp
  · have := fold16_zero b.1
    by_cases h : n = 0
    · rw [h]; rfl
    · have h2 : fold16 n ≠ 0 := fun e => h (this.1 e)
      rw [beq_eq_false_iff_ne.2 h, beq_eq_false_iff_ne.2 h2]; rfl

end Go.Proofs.Ytkdmdnihkhhpiaa.Pure
