/- A body that is too long is refused, and a port that is none; the longest one is not. -/
import Derived.Test.YthmpmladneiegaaPr11
import Derived.Test.YthmpmladneiegaaLem
set_option linter.unusedVariables false
set_option linter.unusedSimpArgs false
namespace Go.Proofs.Ythmpmladneiegaa.Pure
open Go.RowKit Go.Proofs.Ythmpmladneiegaa.Pr Go.Proofs.Ythmpmladneiegaa.Sp Go.Proofs.Ythmpmladneiegaa.Lem Go.Proofs.YthmpmladneiegaaW.PrintWords Go.Proofs.YthmpmladneiegaaW.PrintLast Go.Proofs.YthmpmladneiegaaW.PrintMore

theorem examples_true : weighbridgelaw06_examples.f = some true := by kernel_rfl
theorem zeros_size (n : Nat) : (bl (strOfNums (List.replicate n 0))).length = n := by rw [bl_length, strOfNums_size, List.length_replicate]
theorem UdpLong : weighbridgelaw06_UdpLong.Pure := by
  intro n port w0 w1
  have b0 := wf_u8 w0
  have b1 := wf_i64 w1
  have f1 : fits 2 1 = true := by decide
  have f2 : fits 2 2 = true := by decide
  unfold weighbridgelaw06_UdpLong.f
  rw [examples_true, Option.bind_some, if_pos rfl, if_pos (by decide), w64 (n := n) (by omega) (by omega), w64 (n := 1493 + n) (by omega) (by omega)]
  have l1 := zeros_size 1492
  have l2 := zeros_size (1493 + n).toNat
  rw [udp_Build_eq (by rw [strOfNums_size, List.length_replicate]; omega), Option.bind_some, udpBuild_ok f1 f2 (by omega), if_pos (by omega), if_pos (by omega),
    udp_Build_eq (by rw [strOfNums_size, List.length_replicate]; omega), Option.bind_some, udpBuild_long f1 f2 (by omega)]
  have e0 : (bl (⟨#[]⟩ : ByteArray)) = [] := rfl
  have hz : (⟨#[]⟩ : ByteArray).size ≤ 281474976710656 := by decide
  rw [udp_Build_eq hz, udp_Build_eq hz, Option.bind_some, Option.bind_some, e0]
  have e1 : (lb ([] : List UInt8)).toList = [] := by rw [toL]; rfl
  by_cases hp : 0 ≤ port ∧ port ≤ 65535
  · have hf := fits2.2 hp
    rw [udpBuild_ok hf f2 (by simp), udpBuild_ok f2 hf (by simp)]
    rw [if_pos rfl, if_pos rfl, if_pos e1, if_pos (by omega), decide_eq_true (by omega)]
    rfl
  · have hf : ¬ fits 2 port = true := fun h => hp (fits2.1 h)
    rw [udpBuild_arg (fun h => hf h.1), udpBuild_arg (fun h => hf h.2)]
    rw [if_pos rfl, if_pos rfl, if_pos e1]
    by_cases h0 : port ≥ 0
    · rw [if_pos h0, decide_eq_false (by omega)]; rfl
    · rw [if_neg h0]; rfl

end Go.Proofs.Ythmpmladneiegaa.Pure
