/- A part of a packet alone is refused, whichever part it is; so is a protocol that is not carried (which part; a protocol). -/
import Derived.Test.YtkganedlhcepfaaPr25
import Derived.Test.YtkganedlhcepfaaLem
import Derived.Test.YtkganedlhcepfaaFrm
set_option linter.unusedVariables false
set_option linter.unusedSimpArgs false
namespace Go.Proofs.Ytkganedlhcepfaa.Pure
open Go.RowKit Go.Proofs.Ytkganedlhcepfaa.Pr Go.Proofs.Ytkganedlhcepfaa.Sp Go.Proofs.Ytkganedlhcepfaa.Lem Go.Proofs.YtkganedlhcepfaaW.PrintWords Go.Proofs.YtkganedlhcepfaaW.PrintLast Go.Proofs.YtkganedlhcepfaaW.PrintMore

open Go.Proofs.Ytkganedlhcepfaa.Frm
theorem tcp_e_ne (s : List UInt8) : (tcpParse s).e ≠ 9 := by
  by_cases h : (tcpParse s).e = 0
  · rw [h]; decide
  · unfold tcpParse
    split
    · first | decide | simp
    · split
      · first | decide | simp
      · split <;> first | decide | simp
theorem udp_e_ne (s : List UInt8) : (udpParse s).2.2.2 ≠ 9 := by
  unfold udpParse
  split
  · first | decide | simp
  · split <;> first | decide | simp
theorem ver_ne {p x y : Int} {s : List UInt8} (hp : p = 6 ∨ p = 17) : pverify p x y s ≠ 9 := by
  have h := pverify_nine p x y s
  have hpl : (place p).2 = true := by rcases hp with rfl | rfl <;> rfl
  rw [hpl] at h
  intro e; rw [e] at h; cases h
theorem e_ne {n t : Int} (h : Ip4) (h0 : h.e = 0) (h1 : h.flags % 2 = 0 ∧ h.frag = 0) (hp : h.proto = 6 ∨ h.proto = 17) : (pktOf h n t).e ≠ 9 := by
  have hne : plainErr h ≠ 9 := by
    unfold plainErr
    split
    · exact ver_ne hp
    · unfold endsOf
      split
      · exact tcp_e_ne _
      · exact udp_e_ne _
  unfold pktOf
  rw [if_pos h0, if_pos h1, if_neg (by omega), if_pos hp]
  unfold pktPlain
  split
  · first | decide | simp
  · exact hne
theorem e_nine {n t : Int} (h : Ip4) (h0 : h.e = 0) (h1 : h.flags % 2 = 0 ∧ h.frag = 0) (hp : ¬ (h.proto = 6 ∨ h.proto = 17)) (hq : h.proto ≠ 1) : (pktOf h n t).e = 9 := by
  unfold pktOf
  rw [if_pos h0, if_pos h1, if_neg hq, if_neg hp]
  rfl
theorem e_eight {n t : Int} (h : Ip4) (h0 : h.e = 0) (h1 : ¬ (h.flags % 2 = 0 ∧ h.frag = 0)) : (pktOf h n t).e = 8 := by
  unfold pktOf
  rw [if_pos h0, if_neg h1]
  rfl
theorem built {f g p s d : Int} {q : List UInt8} (hf : 0 ≤ f ∧ f ≤ 7) (hg : 0 ≤ g ∧ g ≤ 8191) (hp : 0 ≤ p ∧ p ≤ 255) (hs : 0 ≤ s ∧ s ≤ 4294967295) (hd : 0 ≤ d ∧ d ≤ 4294967295) (hq : q.length ≤ 1400) :
    (ip4Build 0 0 f g 5 p s d [] q).2 = 0 ∧ (ip4Build 0 0 f g 5 p s d [] q).1.length ≤ 1500 ∧ ip4Parse (ip4Build 0 0 f g 5 p s d [] q).1 = ⟨0, 0, f, g, 5, p, s, d, [], q, 0⟩ := by
  have R : ip4Right 0 0 f g 5 p [] = true := ip4Right_iff.2 ⟨by decide, by decide, hf, hg, by decide, hp, by decide, rfl⟩
  have hz : 20 + (([] : List UInt8).length : Int) + (q.length : Int) ≤ 1500 := by simp only [List.length_nil]; omega
  have hP := ip4Parse_full (s := q) R hs hd hz []
  have hb := ip4Build_yes (s := q) (a := s) (b := d) R hz
  rw [List.append_nil] at hP
  have h2 : (ip4Build 0 0 f g 5 p s d [] q).2 = 0 := by rw [hb]
  refine ⟨h2, (ip4Build_len h2).2, ?_⟩
  rw [hb]; exact hP
theorem PacketParts : weighbridgelaw09_PacketParts.Pure := by
  intro k s d sp dp fl tt b z x y fr pr w0 w1 w2 w3 w4 w5 w6 wb w9 w10 wf wp
  have b0 := wf_u8 w0
  have b1 := wf_u32 w1
  have b2 := wf_u32 w2
  have b3 := wf_u16 w3
  have b4 := wf_u16 w4
  have b5 := wf_u8 w5
  have b6 := wf_u8 w6
  have b9 := wf_u32 w9
  have b10 := wf_u32 w10
  have bf := wf_u16 wf
  have bp := wf_u8 wp
  unfold weighbridgelaw09_PacketParts.f
  have hl : 28 ≤ (frame (k % 2) s d sp dp fl tt (bl b) z x y).length ∧ (frame (k % 2) s d sp dp fl tt (bl b) z x y).length ≤ 200 := by
    first
    | exact frame_len (k := k % 2) (z := z) (t := bl b) b1 b2 b3 b4 b5 b6 (u := x) (v := y) b9 b10
    | exact frame_len (k := k % 2) (z := z) (t := bl b) b1 b2 b3 b4 b5 b6 (u := x) (v := y)
  rw [show weighbridgelaw09_examples.f = some true from rfl, Option.bind_some, if_pos rfl, tm 2 b0.1, weighbridgelaw09_Make_frame_eq (by omega) b1 b2 b3 b4 b5 b6 (by omega) b9 b10, Option.bind_some]
  obtain ⟨F, hFe⟩ : ∃ F, frame (k % 2) s d sp dp fl tt (bl b) z x y = F := ⟨_, rfl⟩
  rw [hFe] at hl ⊢
  obtain ⟨q, hq⟩ : ∃ q, (lb F).extract 20 (lb F).size = lb q := ⟨F.drop 20, bl_inj (by rw [bl_extract, bl_lb, bl_lb, List.take_of_length_le (by rw [lb_size]; exact Nat.le_refl _)])⟩
  have hql : q.length ≤ 1400 := by
    have := congrArg ByteArray.size hq
    rw [ByteArray.size_extract, lb_size, lb_size] at this; omega
  have hfr : 0 ≤ 1 + fr % 8191 ∧ 1 + fr % 8191 ≤ 8191 := by omega
  obtain ⟨e1, l1, p1⟩ := built (f := 0) (g := 1 + fr % 8191) (p := 6) (q := q) (by decide) hfr (by decide) b1 b2 hql
  obtain ⟨e2, l2, p2⟩ := built (f := 1) (g := 0) (p := 6) (q := q) (by decide) (by decide) (by decide) b1 b2 hql
  obtain ⟨e3, l3, p3⟩ := built (f := 0) (g := 0) (p := pr) (q := q) (by decide) (by decide) bp b1 b2 hql
  rw [if_neg (by rw [lb_size]; omega), if_pos (by rw [lb_size]; omega), hq, tm 8191 bf.1, w64 (n := fr % 8191) (by omega) (by omega), w64 (n := 1 + fr % 8191) (by omega) (by omega), w64 (n := pr) (by omega) (by omega),
    weighbridgeref04_Build_eq b1 b2 (by decide) (by rw [lb_size]; omega), Option.bind_some, weighbridgeref04_Build_eq b1 b2 (by decide) (by rw [lb_size]; omega), Option.bind_some, weighbridgeref04_Build_eq b1 b2 (by decide) (by rw [lb_size]; omega), Option.bind_some]
  simp only [bl_lb, show bl (⟨#[]⟩ : ByteArray) = [] from rfl]
  rw [packet_Classify_eq (by rw [lb_size]; omega), Option.bind_some, packet_Classify_eq (by rw [lb_size]; omega), Option.bind_some, packet_Classify_eq (by rw [lb_size]; omega), Option.bind_some]
  simp only [bl_lb]
  have x1 : (pkt (ip4Build 0 0 0 (1 + fr % 8191) 5 6 s d [] q).1).e = 8 := by
    unfold pkt; exact e_eight _ (by rw [p1]) (by rw [p1]; exact fun h => by have h2 : 1 + fr % 8191 = 0 := h.2; omega)
  have x2 : (pkt (ip4Build 0 0 1 0 5 6 s d [] q).1).e = 8 := by
    unfold pkt; exact e_eight _ (by rw [p2]) (by rw [p2]; exact fun h => absurd h.1 (by show ¬ ((1 : Int) % 2 = 0); decide))
  rw [e1, e2, e3, x1, x2]
  by_cases q1 : pr = 1
  · rw [if_pos q1, if_pos rfl, if_pos rfl, if_pos rfl, if_pos rfl, if_pos rfl]
  rw [if_neg q1]
  by_cases q6 : pr = 6
  · have x3 : (pkt (ip4Build 0 0 0 0 5 pr s d [] q).1).e ≠ 9 := by
      unfold pkt; exact e_ne _ (by rw [p3]) (by rw [p3]; exact ⟨rfl, rfl⟩) (by rw [p3]; exact Or.inl q6)
    rw [if_pos q6, if_pos rfl, if_pos rfl, if_pos rfl, if_pos rfl, if_pos rfl, show ((pkt (ip4Build 0 0 0 0 5 pr s d [] q).1).e == 9) = false by simpa using x3]
    rfl
  rw [if_neg q6, if_pos rfl, if_pos rfl, if_pos rfl, if_pos rfl, if_pos rfl]
  by_cases q17 : pr = 17
  · have x3 : (pkt (ip4Build 0 0 0 0 5 pr s d [] q).1).e ≠ 9 := by
      unfold pkt; exact e_ne _ (by rw [p3]) (by rw [p3]; exact ⟨rfl, rfl⟩) (by rw [p3]; exact Or.inr q17)
    rw [show ((pkt (ip4Build 0 0 0 0 5 pr s d [] q).1).e == 9) = false by simpa using x3, q17]
    rfl
  · have x3 : (pkt (ip4Build 0 0 0 0 5 pr s d [] q).1).e = 9 := by
      unfold pkt; exact e_nine _ (by rw [p3]) (by rw [p3]; exact ⟨rfl, rfl⟩) (by rw [p3]; exact fun h => by rcases h with h | h; exact q6 h; exact q17 h) (by rw [p3]; exact q1)
    rw [x3, show (pr == 17) = false by simpa using q17]
    rfl

end Go.Proofs.Ytkganedlhcepfaa.Pure
