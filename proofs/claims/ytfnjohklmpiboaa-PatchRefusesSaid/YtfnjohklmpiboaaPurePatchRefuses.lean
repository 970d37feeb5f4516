/- A packet whose life is at its end is refused, with whatever ends; a port that is none is refused; a packet is not turned as a message, nor a message as a packet. -/
import Derived.Test.YtfnjohklmpiboaaPr29
import Derived.Test.YtfnjohklmpiboaaLem
import Derived.Test.YtfnjohklmpiboaaTrn
set_option linter.unusedVariables false
set_option linter.unusedSimpArgs false
namespace Go.Proofs.Ytfnjohklmpiboaa.Pure
open Go.RowKit Go.Proofs.Ytfnjohklmpiboaa.Pr Go.Proofs.Ytfnjohklmpiboaa.Sp Go.Proofs.Ytfnjohklmpiboaa.Lem Go.Proofs.YtfnjohklmpiboaaW.PrintWords Go.Proofs.YtfnjohklmpiboaaW.PrintLast Go.Proofs.YtfnjohklmpiboaaW.PrintMore

open Go.Proofs.Ytfnjohklmpiboaa.Frm Go.Proofs.Ytfnjohklmpiboaa.Trn
theorem ready_plain {s : List UInt8} {T sp dp : Int} (he : (pkt s).e = 0) (hk : (pkt s).kind = 1) (ht : (pkt s).ttl = T) (hsp : 0 ≤ sp ∧ sp ≤ 65535) : ready s 1 sp dp = (if 0 ≤ dp ∧ dp ≤ 65535 then (if T < 2 then 11 else 0) else 1) ∧ ready s 2 sp dp = 1 := by
  unfold ready
  rw [if_pos he, if_pos he, hk, ht]
  refine ⟨?_, if_neg (fun h => absurd h.1 (by decide))⟩
  by_cases h : 0 ≤ dp ∧ dp ≤ 65535
  · rw [if_pos h, if_pos ⟨rfl, fits2.2 hsp, fits2.2 h⟩]
  · rw [if_neg h, if_neg (fun q => h (fits2.1 q.2.2))]
theorem ready_about {s : List UInt8} {T sp dp : Int} (he : (pkt s).e = 0) (hk : (pkt s).kind = 2) (ht : (pkt s).ttl = T) (hsp : 0 ≤ sp ∧ sp ≤ 65535) : ready s 2 sp dp = (if 0 ≤ dp ∧ dp ≤ 65535 then (if T < 2 then 11 else 0) else 1) ∧ ready s 1 sp dp = 1 := by
  unfold ready
  rw [if_pos he, if_pos he, hk, ht]
  refine ⟨?_, if_neg (fun h => absurd h.1 (by decide))⟩
  by_cases h : 0 ≤ dp ∧ dp ≤ 65535
  · rw [if_pos h, if_pos ⟨rfl, fits2.2 hsp, fits2.2 h⟩]
  · rw [if_neg h, if_neg (fun q => h (fits2.1 q.2.2))]
theorem PatchRefuses : weighbridgelaw10_PatchRefuses.Pure := by
  intro k s d sp dp fl tt b z x y tl po w0 w1 w2 w3 w4 w5 w6 wb w9 w10 q1 q2
  have b0 := wf_u8 w0
  have b1 := wf_u32 w1
  have b2 := wf_u32 w2
  have b3 := wf_u16 w3
  have b4 := wf_u16 w4
  have b5 := wf_u8 w5
  have b9 := wf_u32 w9
  have b10 := wf_u32 w10
  have c1 := wf_u8 q1
  obtain ⟨T, hT, t0, t1⟩ : ∃ T, tl % 6 = T ∧ 0 ≤ T ∧ T ≤ 5 := ⟨_, rfl, by omega, by omega⟩
  unfold weighbridgelaw10_PatchRefuses.f
  have hl := frame_len (k := k) (z := z) (t := bl b) b1 b2 b3 b4 b5 (tt := T) ⟨t0, by omega⟩ (u := x) (v := y) b9 b10
  rw [show weighbridgelaw10_examples.f = some true from rfl, Option.bind_some, if_pos rfl, tm 6 c1.1, tm 4 b0.1, hT, weighbridgelaw10_Make_frame_eq b0 b1 b2 b3 b4 b5 ⟨t0, by omega⟩ (by omega) b9 b10, Option.bind_some]
  rw [patch_Plain_eq (by rw [lb_size]; omega) (by decide) (by decide), Option.bind_some, patch_About_eq (by rw [lb_size]; omega) (by decide) (by decide) (by decide) (by decide), Option.bind_some, patch_Plain_eq (by rw [lb_size]; omega) (by decide) (by decide), Option.bind_some, patch_About_eq (by rw [lb_size]; omega) (by decide) (by decide) (by decide) (by decide), Option.bind_some, bl_lb]
  simp only [patchPlain_2, patchAbout_2]
  have hk1 : k % 4 < 2 → (pkt (frame k s d sp dp fl T (bl b) z x y)).e = 0 ∧ (pkt (frame k s d sp dp fl T (bl b) z x y)).kind = 1 ∧ (pkt (frame k s d sp dp fl T (bl b) z x y)).ttl = T := fun hk => by
    have := pkt_frame_plain (k := k) (z := z) (t := bl b) b1 b2 b3 b4 b5 (tt := T) ⟨t0, by omega⟩ (u := x) (v := y) hk []
    rw [List.append_nil] at this; rw [this]; exact ⟨rfl, rfl, rfl⟩
  have hk2 : ¬ k % 4 < 2 → (pkt (frame k s d sp dp fl T (bl b) z x y)).e = 0 ∧ (pkt (frame k s d sp dp fl T (bl b) z x y)).kind = 2 ∧ (pkt (frame k s d sp dp fl T (bl b) z x y)).ttl = T := fun hk => by
    have := pkt_frame_about (k := k) (z := z) (t := bl b) b1 b2 b3 b4 b5 (tt := T) ⟨t0, by omega⟩ (u := x) (v := y) b9 b10 hk []
    rw [List.append_nil] at this; rw [this]; exact ⟨rfl, rfl, rfl⟩
  generalize frame k s d sp dp fl T (bl b) z x y = F at *
  by_cases hk : k % 4 < 2
  · obtain ⟨e0, e1, e2⟩ := hk1 hk
    have r1 := ready_plain (sp := 3) (dp := 4) e0 e1 e2 (by decide)
    have r2 := ready_plain (sp := 3) (dp := po) e0 e1 e2 (by decide)
    rw [r1.1, r1.2, r2.1, r2.2]
    by_cases h1 : T < 2
    · by_cases h2 : po < 0
      · simp [hk, h1, h2, show ¬ 0 ≤ po by omega]
      · by_cases h3 : po > 65535
        · simp [hk, h1, h2, h3, show ¬ po ≤ 65535 by omega]
        · simp [hk, h1, h2, h3, show 0 ≤ po by omega, show po ≤ 65535 by omega]
    · by_cases h2 : po < 0
      · simp [hk, h1, h2, show ¬ 0 ≤ po by omega]
      · by_cases h3 : po > 65535
        · simp [hk, h1, h2, h3, show ¬ po ≤ 65535 by omega]
        · simp [hk, h1, h2, h3, show 0 ≤ po by omega, show po ≤ 65535 by omega]
  · obtain ⟨e0, e1, e2⟩ := hk2 hk
    have r1 := ready_about (sp := 3) (dp := 4) e0 e1 e2 (by decide)
    have r2 := ready_about (sp := 3) (dp := po) e0 e1 e2 (by decide)
    rw [r1.1, r1.2, r2.1, r2.2]
    by_cases h1 : T < 2
    · by_cases h2 : po < 0
      · simp [hk, h1, h2, show ¬ 0 ≤ po by omega]
      · by_cases h3 : po > 65535
        · simp [hk, h1, h2, h3, show ¬ po ≤ 65535 by omega]
        · simp [hk, h1, h2, h3, show 0 ≤ po by omega, show po ≤ 65535 by omega]
    · by_cases h2 : po < 0
      · simp [hk, h1, h2, show ¬ 0 ≤ po by omega]
      · by_cases h3 : po > 65535
        · simp [hk, h1, h2, h3, show ¬ po ≤ 65535 by omega]
        · simp [hk, h1, h2, h3, show 0 ≤ po by omega, show po ≤ 65535 by omega]

end Go.Proofs.Ytfnjohklmpiboaa.Pure
