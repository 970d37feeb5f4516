/- A message about a packet that was turned tells of the packet's new ends, turned back of the old ones, and the packet in it is as it was, byte by byte, but for checks that stood for nothing. -/
import Derived.Test.YtfnjohklmpiboaaPr27
import Derived.Test.YtfnjohklmpiboaaLem
import Derived.Test.YtfnjohklmpiboaaTrn
set_option linter.unusedVariables false
set_option linter.unusedSimpArgs false
namespace Go.Proofs.Ytfnjohklmpiboaa.Pure
open Go.RowKit Go.Proofs.Ytfnjohklmpiboaa.Pr Go.Proofs.Ytfnjohklmpiboaa.Sp Go.Proofs.Ytfnjohklmpiboaa.Lem Go.Proofs.YtfnjohklmpiboaaW.PrintWords Go.Proofs.YtfnjohklmpiboaaW.PrintLast Go.Proofs.YtfnjohklmpiboaaW.PrintMore

open Go.Proofs.Ytfnjohklmpiboaa.Frm Go.Proofs.Ytfnjohklmpiboaa.Trn
theorem PatchInside : weighbridgelaw10_PatchInside.Pure := by
  intro k s d sp dp fl tt b z x y u v a c w0 w1 w2 w3 w4 w5 w6 wb w9 w10 q1 q2 q3 q4
  have b0 := wf_u8 w0
  have b1 := wf_u32 w1
  have b2 := wf_u32 w2
  have b3 := wf_u16 w3
  have b4 := wf_u16 w4
  have b5 := wf_u8 w5
  have b6 := wf_u8 w6
  have b9 := wf_u32 w9
  have b10 := wf_u32 w10
  have c1 := wf_u32 q1
  have c2 := wf_u32 q2
  have c3 := wf_u16 q3
  have c4 := wf_u16 q4
  obtain ⟨T, hT, t0, t1⟩ : ∃ T, mx tt 3 = T ∧ 3 ≤ T ∧ T ≤ 255 := ⟨_, rfl, by unfold mx; split <;> omega, by unfold mx; split <;> omega⟩
  obtain ⟨K, hK, k0, k1⟩ : ∃ K, (2 + k % 2) % 256 = K ∧ 2 ≤ K ∧ K < 4 := ⟨_, rfl, by omega, by omega⟩
  have hk4 : ¬ K % 4 < 2 := by omega
  obtain ⟨ck, r, hr4, hr5, hF⟩ := frame_about (k := K) (t := bl b) (z := z) (u := x) (v := y) (tt := T) b1 b2 b3 b4 b5 ⟨by omega, t1⟩ hk4
  have hp := protoOf_or K
  generalize (20 + ((segOf (protoOf K) s d sp dp (fl % 64) z ((bl b).take 40)).length : Int)) = N at hF
  obtain ⟨C1, R1, g1, G1⟩ := patchAbout_F (l := T) (x := x) (y := y) (c := fl % 6) (lt := T) (T := N) (ck := ck) (r := r) (p := protoOf K) (px := s) (py := d) (a := sp) (b := dp) (os := u) (od := v) (u := y) (v := x) (sp := a) (dp := c) hp ⟨by omega, t1⟩ ⟨by omega, by omega⟩ b9 b10 hr4 (by omega) b1 b2 b3 b4 c1 c2 b10 b9 c3 c4
  obtain ⟨C2, R2, g2, G2⟩ := patchAbout_F (l := T - 1) (x := u) (y := v) (c := fl % 6) (lt := T) (T := N) (ck := C1) (r := R1) (p := protoOf K) (px := y) (py := x) (a := a) (b := c) (os := x) (od := y) (u := s) (v := d) (sp := sp) (dp := dp) hp ⟨by omega, by omega⟩ ⟨by omega, by omega⟩ c1 c2 (by omega) (by omega) b10 b9 c3 c4 b9 b10 b1 b2 b3 b4
  have P1 := pkt_about (ttl := T - 1) (c := fl % 6) (x := u) (y := v) (p := protoOf K) (px := y) (py := x) (T := N) (ck := C1) (a := a) (b := c) (r := R1) (by omega) (by omega) hp ⟨by omega, by omega⟩ T ⟨by omega, by omega⟩ c1 c2 b10 b9 c3 c4 []
  have P2 := pkt_about (ttl := T - 1 - 1) (c := fl % 6) (x := x) (y := y) (p := protoOf K) (px := s) (py := d) (T := N) (ck := C2) (a := sp) (b := dp) (r := R2) (by omega) (by omega) hp ⟨by omega, by omega⟩ T ⟨by omega, by omega⟩ b9 b10 b1 b2 b3 b4 []
  rw [List.append_nil] at P1 P2
  have L0 : (ipF 0 T 1 x y (msgF (fl % 6) (quo T (protoOf K) s d N ck sp dp r))).length = 52 + r.length := by rw [ipF_length, msgF_length, quo_length]; omega
  have L1 : (ipF 0 (T - 1) 1 u v (msgF (fl % 6) (quo T (protoOf K) y x N C1 a c R1))).length = 52 + r.length := by rw [ipF_length, msgF_length, quo_length]; omega
  have L2 : (ipF 0 (T - 1 - 1) 1 x y (msgF (fl % 6) (quo T (protoOf K) s d N C2 sp dp R2))).length = 52 + r.length := by rw [ipF_length, msgF_length, quo_length]; omega
  have S1 : ((ipF 0 (T - 1 - 1) 1 x y (msgF (fl % 6) (quo T (protoOf K) s d N C2 sp dp R2))).take 38).drop 28 = ((ipF 0 T 1 x y (msgF (fl % 6) (quo T (protoOf K) s d N ck sp dp r))).take 38).drop 28 := by
    rw [ipF_abt, ipF_abt]; exact abt_start _ _ _ _ _ _ _ _ _ _ _ _ _ _ _ _ _ _ _ _ _ _ _ _ _ _ _ _
  have S2 : ((ipF 0 (T - 1 - 1) 1 x y (msgF (fl % 6) (quo T (protoOf K) s d N C2 sp dp R2))).take 48).drop 40 = ((ipF 0 T 1 x y (msgF (fl % 6) (quo T (protoOf K) s d N ck sp dp r))).take 48).drop 40 := by
    rw [ipF_abt, ipF_abt, abt_ends, abt_ends]
  unfold weighbridgelaw10_PatchInside.f
  rw [show weighbridgelaw10_examples.f = some true from rfl, Option.bind_some, if_pos rfl, hT, tm 2 b0.1, hK, w64 (n := a) (by omega) (by omega), w64 (n := c) (by omega) (by omega), w64 (n := sp) (by omega) (by omega), w64 (n := dp) (by omega) (by omega), weighbridgelaw10_Make_frame_eq ⟨by omega, by omega⟩ b1 b2 b3 b4 b5 ⟨by omega, t1⟩ (by omega) b9 b10, Option.bind_some, hF, patch_About_eq (by rw [lb_size]; omega) c1 c2 b10 b9, bl_lb, G1, Option.bind_some]
  simp only
  rw [packet_Classify_eq (by rw [lb_size]; omega), bl_lb, P1, Option.bind_some, patch_About_eq (by rw [lb_size]; omega) b9 b10 b1 b2, bl_lb, G2, Option.bind_some]
  simp only
  rw [packet_Classify_eq (by rw [lb_size]; omega), bl_lb, P2, Option.bind_some]
  simp only
  simp only [lb_size, L0, L1, L2, extract_lb, S1, S2]
  have k38 : (38 : Int) ≤ ((52 + r.length : Nat) : Int) := by omega
  have k48 : (48 : Int) ≤ ((52 + r.length : Nat) : Int) := by omega
  generalize ((52 + r.length : Nat) : Int) = L at *
  simp [k38, k48]

end Go.Proofs.Ytfnjohklmpiboaa.Pure
