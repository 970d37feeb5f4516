/- Any bytes are read alike by both texts, or refused. -/
import Derived.Test.YthmpmladneiegaaPr9
import Derived.Test.YthmpmladneiegaaLem
set_option linter.unusedVariables false
set_option linter.unusedSimpArgs false
namespace Go.Proofs.Ythmpmladneiegaa.Pure
open Go.RowKit Go.Proofs.Ythmpmladneiegaa.Pr Go.Proofs.Ythmpmladneiegaa.Sp Go.Proofs.Ythmpmladneiegaa.Lem Go.Proofs.YthmpmladneiegaaW.PrintWords Go.Proofs.YthmpmladneiegaaW.PrintLast Go.Proofs.YthmpmladneiegaaW.PrintMore

theorem examples_true : weighbridgelaw06_examples.f = some true := by kernel_rfl
theorem UdpParses : weighbridgelaw06_UdpParses.Pure := by
  intro s hs
  unfold weighbridgelaw06_UdpParses.f
  rw [examples_true, Option.bind_some, if_pos rfl, udp_Parse_eq (by omega), weighbridgeref06_Parse_eq (by omega), Option.bind_some, Option.bind_some, udp_Size_eq (by omega), weighbridgeref06_Size_eq (by omega), Option.bind_some, Option.bind_some]
  simp

end Go.Proofs.Ythmpmladneiegaa.Pure
