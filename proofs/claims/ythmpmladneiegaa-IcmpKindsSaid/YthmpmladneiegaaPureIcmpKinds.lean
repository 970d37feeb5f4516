/- Just three kinds are about others; just one kind and code says how long a packet may be. -/
import Derived.Test.YthmpmladneiegaaPr24
import Derived.Test.YthmpmladneiegaaLem
set_option linter.unusedVariables false
set_option linter.unusedSimpArgs false
namespace Go.Proofs.Ythmpmladneiegaa.Pure
open Go.RowKit Go.Proofs.Ythmpmladneiegaa.Pr Go.Proofs.Ythmpmladneiegaa.Sp Go.Proofs.Ythmpmladneiegaa.Lem Go.Proofs.YthmpmladneiegaaW.PrintWords Go.Proofs.YthmpmladneiegaaW.PrintLast Go.Proofs.YthmpmladneiegaaW.PrintMore

theorem examples_true : weighbridgelaw07_examples.f = some true := by kernel_rfl
theorem and_u32 {n : Int} (h0 : 0 ≤ n) (h1 : n ≤ 4294967295) : Go.bits .and .u32 n 65535 = n % 65536 :=
  bits_mask .u32 32 (by decide) (fun n a b => IntWalk.u32_in n ⟨a, by omega⟩) 16 (by decide) n h0 (by omega)
theorem IcmpKinds : weighbridgelaw07_IcmpKinds.Pure := by
  intro a b r w0 w1 w2
  have b2 := wf_u32 w2
  have e1 : Go.bits .and .i64 r 65535 = r % 65536 := and64 16 (by decide) b2.1 (by omega)
  unfold weighbridgelaw07_IcmpKinds.f icmp_MTU.f icmp_Error.f
  rw [examples_true, Option.bind_some, if_pos rfl, and_u32 b2.1 b2.2, w64 (n := r % 65536) (by omega) (by omega), w64 (n := r) (by omega) (by omega), e1]
  by_cases h1 : a = 3
  · subst h1
    by_cases h2 : b = 4
    · subst h2; simp
    · simp [h2]
  · by_cases h2 : a = 11
    · subst h2; simp
    · by_cases h3 : a = 12
      · subst h3; simp
      · simp [h1, h2, h3]

end Go.Proofs.Ythmpmladneiegaa.Pure
