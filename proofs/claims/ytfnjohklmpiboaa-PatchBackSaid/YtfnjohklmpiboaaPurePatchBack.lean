/- A packet that was turned is classified with its new ends, and a life one less; turned back it is as it was, but for its life, and its checks. -/
import Derived.Test.YtfnjohklmpiboaaPr25
import Derived.Test.YtfnjohklmpiboaaLem
import Derived.Test.YtfnjohklmpiboaaTrn
set_option linter.unusedVariables false
set_option linter.unusedSimpArgs false
namespace Go.Proofs.Ytfnjohklmpiboaa.Pure
open Go.RowKit Go.Proofs.Ytfnjohklmpiboaa.Pr Go.Proofs.Ytfnjohklmpiboaa.Sp Go.Proofs.Ytfnjohklmpiboaa.Lem Go.Proofs.YtfnjohklmpiboaaW.PrintWords Go.Proofs.YtfnjohklmpiboaaW.PrintLast Go.Proofs.YtfnjohklmpiboaaW.PrintMore

open Go.Proofs.Ytfnjohklmpiboaa.Frm Go.Proofs.Ytfnjohklmpiboaa.Trn
theorem PatchBack : weighbridgelaw10_PatchBack.Pure := by
  intro k s d sp dp fl tt b z x y u v a c w0 w1 w2 w3 w4 w5 w6 wb w9 w10 q1 q2 q3 q4
  have b0 := wf_u8 w0
  have b1 := wf_u32 w1
  have b2 := wf_u32 w2
  have b3 := wf_u16 w3
  have b4 := wf_u16 w4
  have b5 := wf_u8 w5
  have b6 := wf_u8 w6
  have b9 := wf_u32 w9
  have b10 := wf_u32 w10
  have c1 := wf_u32 q1
  have c2 := wf_u32 q2
  have c3 := wf_u16 q3
  have c4 := wf_u16 q4
  obtain ⟨T, hT, t0, t1⟩ : ∃ T, mx tt 3 = T ∧ 3 ≤ T ∧ T ≤ 255 := ⟨_, rfl, by unfold mx; split <;> omega, by unfold mx; split <;> omega⟩
  obtain ⟨K, hK, k0, k1⟩ : ∃ K, k % 2 = K ∧ 0 ≤ K ∧ K < 2 := ⟨_, rfl, by omega, by omega⟩
  have hk4 : K % 4 < 2 := by omega
  have hl0 := frame_plain_len (k := K) (t := bl b) (z := z) (f := x) (g := y) (tt := T) b1 b2 b3 b4 b5 ⟨by omega, t1⟩ hk4
  have hl1 := frame_plain_len (k := K) (t := bl b) (z := z) (f := x) (g := y) (tt := T - 1) c1 c2 c3 c4 b5 ⟨by omega, by omega⟩ hk4
  have hm : ((bl b).take 40).length ≤ 40 := by rw [List.length_take]; omega
  have hq : (if protoOf K = 6 then 20 else 8) + ((bl b).take 40).length ≤ 60 := by split <;> omega
  have p1 := patchPlain_frame (k := K) (t := bl b) (z := z) (f := x) (g := y) b1 b2 b3 b4 b5 (show 2 ≤ T ∧ T ≤ 255 from ⟨by omega, t1⟩) c1 c2 c3 c4 hk4 []
  have p2 := patchPlain_frame (k := K) (t := bl b) (z := z) (f := x) (g := y) c1 c2 c3 c4 b5 (show 2 ≤ T - 1 ∧ T - 1 ≤ 255 from ⟨by omega, by omega⟩) b1 b2 b3 b4 hk4 []
  have e1 := pkt_frame_plain (k := K) (t := bl b) (z := z) (u := x) (v := y) c1 c2 c3 c4 b5 (show 0 ≤ T - 1 ∧ T - 1 ≤ 255 from ⟨by omega, by omega⟩) hk4 []
  rw [List.append_nil] at p1 p2 e1
  unfold weighbridgelaw10_PatchBack.f
  rw [show weighbridgelaw10_examples.f = some true from rfl, Option.bind_some, if_pos rfl, hT, tm 2 b0.1, hK, w64 (n := a) (by omega) (by omega), w64 (n := c) (by omega) (by omega), w64 (n := sp) (by omega) (by omega), w64 (n := dp) (by omega) (by omega), w64 (n := T) (by omega) (by omega), w64 (n := T - 1) (by omega) (by omega), weighbridgelaw10_Make_frame_eq ⟨k0, by omega⟩ b1 b2 b3 b4 b5 ⟨by omega, t1⟩ (by omega) b9 b10, Option.bind_some, patch_Plain_eq (by rw [lb_size]; omega) c1 c2, bl_lb, p1, Option.bind_some]
  simp only
  rw [packet_Classify_eq (by rw [lb_size]; omega), bl_lb, e1, Option.bind_some, patch_Plain_eq (by rw [lb_size]; omega) b1 b2, bl_lb, p2, Option.bind_some]
  simp only
  rw [if_pos trivial, if_pos trivial, if_pos trivial, if_pos (by rw [lb_size, lb_size, hl0, hl1]), if_pos (by simp), if_pos trivial, show (T - 2) % 256 = T - 1 - 1 by omega, weighbridgelaw10_Make_frame_eq ⟨k0, by omega⟩ b1 b2 b3 b4 b5 ⟨by omega, by omega⟩ (by omega) b9 b10, Option.bind_some, beq_self_eq_true]

end Go.Proofs.Ytfnjohklmpiboaa.Pure
