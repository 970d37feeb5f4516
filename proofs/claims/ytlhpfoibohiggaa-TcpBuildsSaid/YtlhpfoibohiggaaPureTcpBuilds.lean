/- Any header and body make the segment that the chapter says, or are refused; any flags have the name. -/
import Derived.Test.YtlhpfoibohiggaaPr9
import Derived.Test.YtlhpfoibohiggaaLem
set_option linter.unusedVariables false
set_option linter.unusedSimpArgs false
namespace Go.Proofs.Ytlhpfoibohiggaa.Pure
open Go.RowKit Go.Proofs.Ytlhpfoibohiggaa.Pr Go.Proofs.Ytlhpfoibohiggaa.Sp Go.Proofs.Ytlhpfoibohiggaa.Lem Go.Proofs.YtlhpfoibohiggaaW.PrintWords Go.Proofs.YtlhpfoibohiggaaW.PrintLast Go.Proofs.YtlhpfoibohiggaaW.PrintMore

theorem examples_true : weighbridgelaw05_examples.f = some true := by kernel_rfl
theorem TcpBuilds : weighbridgelaw05_TcpBuilds.Pure := by
  intro a b c d e f g o s n w0 w1 w2 w3 w4 w5 w6 wo ws wn
  have b2 := wf_u32 w2
  have b3 := wf_u32 w3
  unfold weighbridgelaw05_TcpBuilds.f weighbridgelaw05_ref.f
  rw [examples_true, Option.bind_some, if_pos rfl, tcp_Build_eq b2 b3 (by omega) (by omega), Option.bind_some, Option.bind_some]
  show (weighbridgeref05_Build.f a b c d e f g o s).bind _ = _
  rw [weighbridgeref05_Build_eq b2 b3 (by omega) (by omega), Option.bind_some, if_pos rfl, if_pos rfl, tcp_Right_eq (by omega), Option.bind_some, Option.bind_some]
  show (weighbridgeref05_Right.f a b c d e f g o).bind _ = _
  rw [weighbridgeref05_Right_eq (by omega), Option.bind_some, if_pos (by simp), tcp_OptsRight_eq (by omega), Option.bind_some, weighbridgeref04_OptsRight_eq (by omega), Option.bind_some, if_pos (by simp)]
  unfold tcp_Name.f weighbridgeref05_Name.f
  rw [Option.bind_some, Option.bind_some]
  simp

end Go.Proofs.Ytlhpfoibohiggaa.Pure
