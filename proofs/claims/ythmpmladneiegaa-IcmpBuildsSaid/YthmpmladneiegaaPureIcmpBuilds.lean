/- Any message is built as the chapter says, or refused; it is an error or not, and says how long a packet may be, or not. -/
import Derived.Test.YthmpmladneiegaaPr21
import Derived.Test.YthmpmladneiegaaLem
set_option linter.unusedVariables false
set_option linter.unusedSimpArgs false
namespace Go.Proofs.Ythmpmladneiegaa.Pure
open Go.RowKit Go.Proofs.Ythmpmladneiegaa.Pr Go.Proofs.Ythmpmladneiegaa.Sp Go.Proofs.Ythmpmladneiegaa.Lem Go.Proofs.YthmpmladneiegaaW.PrintWords Go.Proofs.YthmpmladneiegaaW.PrintLast Go.Proofs.YthmpmladneiegaaW.PrintMore

theorem examples_true : weighbridgelaw07_examples.f = some true := by kernel_rfl
theorem and_u32 {n : Int} (h0 : 0 ≤ n) (h1 : n ≤ 4294967295) : Go.bits .and .u32 n 65535 = n % 65536 :=
  bits_mask .u32 32 (by decide) (fun n a b => IntWalk.u32_in n ⟨a, by omega⟩) 16 (by decide) n h0 (by omega)
theorem mtu_same (a b r : Int) (s : ByteArray) (h : 0 ≤ r ∧ r ≤ 4294967295) : icmp_MTU.f a b r s = weighbridgeref07_MTU.f a b r s := by
  unfold icmp_MTU.f weighbridgeref07_MTU.f
  rw [and_u32 h.1 h.2, tm 65536 h.1]
  by_cases h1 : a = 3
  · by_cases h2 : b = 4
    · rw [if_neg (by simp [h1, h2]), if_pos h1, if_pos h2]
    · rw [if_pos (by simp [h2]), if_pos h1, if_neg h2]
  · rw [if_pos (by simp [h1]), if_neg h1]
theorem error_same (n : Int) : icmp_Error.f n = weighbridgeref07_Error.f n := by
  unfold icmp_Error.f weighbridgeref07_Error.f
  by_cases h1 : n = 3
  · rw [if_pos h1, if_pos h1]
  · by_cases h2 : n = 11
    · rw [if_neg h1, if_neg h1, if_pos h2, if_pos h2]
    · by_cases h3 : n = 12
      · rw [if_neg h1, if_neg h1, if_neg h2, if_neg h2, if_pos h3]; simp [h3]
      · rw [if_neg h1, if_neg h1, if_neg h2, if_neg h2, if_neg h3]; simp [h3]
theorem mtu_some (a b r : Int) (s : ByteArray) : ∃ x, weighbridgeref07_MTU.f a b r s = some x := by
  unfold weighbridgeref07_MTU.f; (repeat' split) <;> exact ⟨_, rfl⟩
theorem error_some (n : Int) : ∃ x, weighbridgeref07_Error.f n = some x := by
  unfold weighbridgeref07_Error.f; (repeat' split) <;> exact ⟨_, rfl⟩
theorem IcmpBuilds : weighbridgelaw07_IcmpBuilds.Pure := by
  intro t c r b n w0 w1 w2 w3 w4
  have b2 := wf_u32 w2
  obtain ⟨⟨m1, m2⟩, hm⟩ := mtu_some t c r b
  obtain ⟨e, he⟩ := error_some n
  unfold weighbridgelaw07_IcmpBuilds.f weighbridgelaw07_ref.f
  rw [examples_true, Option.bind_some, if_pos rfl, icmp_Build_eq b2 (by omega), Option.bind_some]
  show (weighbridgeref07_Build.f t c r b).bind _ = _
  rw [weighbridgeref07_Build_eq b2 (by omega), Option.bind_some, mtu_same t c r b b2, hm, Option.bind_some]
  show (weighbridgeref07_MTU.f t c r b).bind _ = _
  rw [hm, Option.bind_some, if_pos rfl, if_pos rfl, if_pos rfl, if_pos (by simp), error_same, he, Option.bind_some, Option.bind_some]
  simp

end Go.Proofs.Ythmpmladneiegaa.Pure
