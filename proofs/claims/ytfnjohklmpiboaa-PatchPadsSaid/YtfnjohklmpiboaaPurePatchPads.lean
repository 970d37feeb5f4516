/- What stands behind a packet's total goes, and changes nothing. -/
import Derived.Test.YtfnjohklmpiboaaPr30
import Derived.Test.YtfnjohklmpiboaaLem
import Derived.Test.YtfnjohklmpiboaaTrn
set_option linter.unusedVariables false
set_option linter.unusedSimpArgs false
namespace Go.Proofs.Ytfnjohklmpiboaa.Pure
open Go.RowKit Go.Proofs.Ytfnjohklmpiboaa.Pr Go.Proofs.Ytfnjohklmpiboaa.Sp Go.Proofs.Ytfnjohklmpiboaa.Lem Go.Proofs.YtfnjohklmpiboaaW.PrintWords Go.Proofs.YtfnjohklmpiboaaW.PrintLast Go.Proofs.YtfnjohklmpiboaaW.PrintMore

open Go.Proofs.Ytfnjohklmpiboaa.Frm Go.Proofs.Ytfnjohklmpiboaa.Trn
theorem PatchPads : weighbridgelaw10_PatchPads.Pure := by
  intro k s d sp dp fl tt b z x y more w0 w1 w2 w3 w4 w5 w6 wb w9 w10 wm
  have b0 := wf_u8 w0
  have b1 := wf_u32 w1
  have b2 := wf_u32 w2
  have b3 := wf_u16 w3
  have b4 := wf_u16 w4
  have b5 := wf_u8 w5
  have b6 := wf_u8 w6
  have b9 := wf_u32 w9
  have b10 := wf_u32 w10
  obtain ⟨T, hT, t0, t1⟩ : ∃ T, mx tt 2 = T ∧ 2 ≤ T ∧ T ≤ 255 := ⟨_, rfl, by unfold mx; split <;> omega, by unfold mx; split <;> omega⟩
  unfold weighbridgelaw10_PatchPads.f
  have hl := frame_len (k := k) (z := z) (t := bl b) b1 b2 b3 b4 b5 (tt := T) ⟨by omega, t1⟩ (u := x) (v := y) b9 b10
  rw [show weighbridgelaw10_examples.f = some true from rfl, Option.bind_some, if_pos rfl, hT, weighbridgelaw10_Make_frame_eq b0 b1 b2 b3 b4 b5 ⟨by omega, t1⟩ (by omega) b9 b10, Option.bind_some]
  have hk1 : k % 4 < 2 → ∀ m, (pkt (frame k s d sp dp fl T (bl b) z x y ++ m)) = ⟨1, 20, ((frame k s d sp dp fl T (bl b) z x y).length : Int), protoOf k, s, d, sp, dp, if protoOf k = 6 then fl % 64 else 0, T, s, d, 0, 0, 0⟩ := fun hk m =>
    pkt_frame_plain (k := k) (z := z) (t := bl b) b1 b2 b3 b4 b5 (tt := T) ⟨by omega, t1⟩ (u := x) (v := y) hk m
  have hk2 : ¬ k % 4 < 2 → ∀ m, (pkt (frame k s d sp dp fl T (bl b) z x y ++ m)) = ⟨2, 20, ((frame k s d sp dp fl T (bl b) z x y).length : Int), protoOf k, s, d, sp, dp, 0, T, x, y, 28, 48, 0⟩ := fun hk m =>
    pkt_frame_about (k := k) (z := z) (t := bl b) b1 b2 b3 b4 b5 (tt := T) ⟨by omega, t1⟩ (u := x) (v := y) b9 b10 hk m
  generalize frame k s d sp dp fl T (bl b) z x y = F at *
  have hp : ∀ m, pkt (F ++ m) = pkt F ∧ (pkt F).total = F.length ∧ (ready F 1 3 4 = 0 ∨ ready F 2 3 4 = 0) := fun m => by
    by_cases hk : k % 4 < 2
    · have h1 := hk1 hk m
      have h2 := hk1 hk []
      rw [List.append_nil] at h2
      refine ⟨by rw [h1, h2], by rw [h2], Or.inl ?_⟩
      rw [ready_of (by rw [h2]) (by rw [h2]) (by decide) (by decide), h2]
      exact if_neg (by show ¬ T < 2; omega)
    · have h1 := hk2 hk m
      have h2 := hk2 hk []
      rw [List.append_nil] at h2
      refine ⟨by rw [h1, h2], by rw [h2], Or.inr ?_⟩
      rw [ready_of (by rw [h2]) (by rw [h2]) (by decide) (by decide), h2]
      exact if_neg (by show ¬ T < 2; omega)
  obtain ⟨p1, p2, p3⟩ := hp (bl more)
  rw [patch_Plain_eq (by rw [lb_size]; omega) (by decide) (by decide), Option.bind_some, if_pos (by rw [lb_size]; omega), patch_Plain_eq (by rw [ByteArray.size_append, lb_size]; omega) (by decide) (by decide), Option.bind_some, patch_About_eq (by rw [lb_size]; omega) (by decide) (by decide) (by decide) (by decide), Option.bind_some, patch_About_eq (by rw [ByteArray.size_append, lb_size]; omega) (by decide) (by decide) (by decide) (by decide), Option.bind_some, bl_append, bl_lb, patchPlain_more p1 p2, patchAbout_more p1 p2]
  simp only [patchPlain_2, patchAbout_2]
  rw [if_pos trivial, if_pos trivial, if_pos trivial, if_pos trivial]
  by_cases h : ready F 1 3 4 = 0
  · rw [if_pos h]
  · rw [if_neg h]
    rcases p3 with p3 | p3
    · exact absurd p3 h
    · rw [p3]; rfl

end Go.Proofs.Ytfnjohklmpiboaa.Pure
