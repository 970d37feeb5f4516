/- Any ports and body make the same datagram by both texts, or are refused by both. -/
import Derived.Test.YthmpmladneiegaaPr8
import Derived.Test.YthmpmladneiegaaLem
set_option linter.unusedVariables false
set_option linter.unusedSimpArgs false
namespace Go.Proofs.Ythmpmladneiegaa.Pure
open Go.RowKit Go.Proofs.Ythmpmladneiegaa.Pr Go.Proofs.Ythmpmladneiegaa.Sp Go.Proofs.Ythmpmladneiegaa.Lem Go.Proofs.YthmpmladneiegaaW.PrintWords Go.Proofs.YthmpmladneiegaaW.PrintLast Go.Proofs.YthmpmladneiegaaW.PrintMore

theorem examples_true : weighbridgelaw06_examples.f = some true := by kernel_rfl
theorem UdpBuilds : weighbridgelaw06_UdpBuilds.Pure := by
  intro a b s w1 w2 hs
  unfold weighbridgelaw06_UdpBuilds.f
  rw [examples_true, Option.bind_some, if_pos rfl, udp_Build_eq (by omega), weighbridgeref06_Build_eq (by omega), Option.bind_some, Option.bind_some]
  simp

end Go.Proofs.Ythmpmladneiegaa.Pure
