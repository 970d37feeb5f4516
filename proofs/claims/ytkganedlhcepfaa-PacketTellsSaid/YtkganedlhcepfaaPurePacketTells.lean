/- A packet that is made says whose it is, whatever stands behind it; what is about another one says whose that is. -/
import Derived.Test.YtkganedlhcepfaaPr24
import Derived.Test.YtkganedlhcepfaaLem
import Derived.Test.YtkganedlhcepfaaFrm
set_option linter.unusedVariables false
set_option linter.unusedSimpArgs false
namespace Go.Proofs.Ytkganedlhcepfaa.Pure
open Go.RowKit Go.Proofs.Ytkganedlhcepfaa.Pr Go.Proofs.Ytkganedlhcepfaa.Sp Go.Proofs.Ytkganedlhcepfaa.Lem Go.Proofs.YtkganedlhcepfaaW.PrintWords Go.Proofs.YtkganedlhcepfaaW.PrintLast Go.Proofs.YtkganedlhcepfaaW.PrintMore

open Go.Proofs.Ytkganedlhcepfaa.Frm
theorem PacketTells : weighbridgelaw09_PacketTells.Pure := by
  intro k s d sp dp fl tt b z x y more w0 w1 w2 w3 w4 w5 w6 wb w9 w10 wm
  have b0 := wf_u8 w0
  have b1 := wf_u32 w1
  have b2 := wf_u32 w2
  have b3 := wf_u16 w3
  have b4 := wf_u16 w4
  have b5 := wf_u8 w5
  have b6 := wf_u8 w6
  have b9 := wf_u32 w9
  have b10 := wf_u32 w10
  refine ⟨2, ?_⟩
  unfold weighbridgelaw09_PacketTells.f
  have hl := frame_len (k := k) (z := z) (t := bl b) b1 b2 b3 b4 b5 b6 (u := x) (v := y) b9 b10
  rw [show weighbridgelaw09_examples.f = some true from rfl, Option.bind_some, if_pos rfl, weighbridgelaw09_Make_frame_eq b0 b1 b2 b3 b4 b5 b6 (by omega) b9 b10, Option.bind_some, if_pos (by rw [lb_size]; omega), packet_Classify_eq (by rw [ByteArray.size_append, lb_size]; omega), Option.bind_some, bl_append, bl_lb, tm 2 b0.1, w64 (n := sp) (by omega) (by omega), w64 (n := dp) (by omega) (by omega)]
  by_cases hk : k % 4 < 2
  · have hp := pkt_frame_plain (k := k) (z := z) (t := bl b) b1 b2 b3 b4 b5 b6 (u := x) (v := y) hk (bl more)
    rw [hp]
    unfold protoOf
    by_cases h2 : k % 2 = 1
    · rw [if_pos h2]
      simp only [weighbridgelaw09_PacketTells.j0]
      simp [weighbridgelaw09_PacketTells.j1, h2, hk, tm 2 b0.1, tm 4 b0.1, w64 (n := tt) (by omega) (by omega)]
    · rw [if_neg h2]
      simp only [weighbridgelaw09_PacketTells.j0]
      simp [weighbridgelaw09_PacketTells.j1, h2, hk, tm 2 b0.1, tm 4 b0.1, tm 64 b5.1, w64 (n := tt) (by omega) (by omega), w64 (n := fl % 64) (by omega) (by omega)]
  · have hp := pkt_frame_about (k := k) (z := z) (t := bl b) b1 b2 b3 b4 b5 b6 (u := x) (v := y) b9 b10 hk (bl more)
    rw [hp]
    unfold protoOf
    have hk' : 2 ≤ k % 4 := by omega
    by_cases h2 : k % 2 = 1
    · rw [if_pos h2]
      simp only [weighbridgelaw09_PacketTells.j0]
      simp [weighbridgelaw09_PacketTells.j1, h2, hk, hk', tm 2 b0.1, tm 4 b0.1, w64 (n := tt) (by omega) (by omega)]
    · rw [if_neg h2]
      simp only [weighbridgelaw09_PacketTells.j0]
      simp [weighbridgelaw09_PacketTells.j1, h2, hk, hk', tm 2 b0.1, tm 4 b0.1, w64 (n := tt) (by omega) (by omega)]

end Go.Proofs.Ytkganedlhcepfaa.Pure
