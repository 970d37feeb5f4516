/- A packet with one bit of its body turned is refused for its sum, of TCP, and of UDP, where it has a check (a body of at most 40 bytes; a bit of it). -/
import Derived.Test.YtkganedlhcepfaaPr26
import Derived.Test.YtkganedlhcepfaaLem
import Derived.Test.YtkganedlhcepfaaFrm
set_option linter.unusedVariables false
set_option linter.unusedSimpArgs false
namespace Go.Proofs.Ytkganedlhcepfaa.Pure
open Go.RowKit Go.Proofs.Ytkganedlhcepfaa.Pr Go.Proofs.Ytkganedlhcepfaa.Sp Go.Proofs.Ytkganedlhcepfaa.Lem Go.Proofs.YtkganedlhcepfaaW.PrintWords Go.Proofs.YtkganedlhcepfaaW.PrintLast Go.Proofs.YtkganedlhcepfaaW.PrintMore

open Go.Proofs.Ytkganedlhcepfaa.Frm
theorem PacketSums : weighbridgelaw09_PacketSums.Pure := by
  intro k s d sp dp fl tt b z x y bit w0 w1 w2 w3 w4 w5 w6 wb w9 w10 wi
  have b0 := wf_u8 w0
  have b1 := wf_u32 w1
  have b2 := wf_u32 w2
  have b3 := wf_u16 w3
  have b4 := wf_u16 w4
  have b5 := wf_u8 w5
  have b6 := wf_u8 w6
  have b9 := wf_u32 w9
  have b10 := wf_u32 w10
  have bi := wf_u16 wi
  unfold weighbridgelaw09_PacketSums.f
  have hB1 : ((⟨#[98]⟩ : ByteArray) ++ b).size = 1 + b.size := by rw [ByteArray.size_append]; rfl
  obtain ⟨B, hB⟩ : ∃ B, (⟨#[98]⟩ : ByteArray) ++ b = B := ⟨_, rfl⟩
  rw [hB] at hB1 ⊢
  obtain ⟨m, hm, hm0⟩ : ∃ m : Nat, mn (B.size : Int) 40 = (m : Int) ∧ m = min B.size 40 := ⟨min B.size 40, by unfold mn; omega, rfl⟩
  have hm1 : 1 ≤ m ∧ m ≤ 40 ∧ m ≤ B.size := by omega
  rw [hm]
  have hk : (k % 2) % 4 < 2 := by omega
  have hp := protoOf_or (k % 2)
  have hF := frame_plain (k := k % 2) (z := false) (t := bl B) b1 b2 b3 b4 b5 b6 (u := x) (v := y) hk
  have hl : 28 ≤ (frame (k % 2) s d sp dp fl tt (bl B) false x y).length ∧ (frame (k % 2) s d sp dp fl tt (bl B) false x y).length ≤ 200 := by
    first
    | exact frame_len (k := k % 2) (z := false) (t := bl B) b1 b2 b3 b4 b5 b6 (u := x) (v := y) b9 b10
    | exact frame_len (k := k % 2) (z := false) (t := bl B) b1 b2 b3 b4 b5 b6 (u := x) (v := y)
  have hP := pkt_frame_plain (k := k % 2) (z := false) (t := bl B) b1 b2 b3 b4 b5 b6 (u := x) (v := y) hk []
  rw [List.append_nil] at hP
  rw [show weighbridgelaw09_examples.f = some true from rfl, Option.bind_some, if_pos rfl, if_pos (by omega), tm 2 b0.1, weighbridgelaw09_Make_frame_eq (by omega) b1 b2 b3 b4 b5 b6 (by omega) b9 b10, Option.bind_some]
  have hP0 : (pkt (frame (k % 2) s d sp dp fl tt (bl B) false x y)).e = 0 := by rw [hP]
  clear hP
  have htl : ((bl B).take 40).length = m := by rw [List.length_take, bl_length]; omega
  have hsl := segOf_length (protoOf (k % 2)) s d sp dp (fl % 64) false ((bl B).take 40)
  have hFl : (frame (k % 2) s d sp dp fl tt (bl B) false x y).length = 20 + (segOf (protoOf (k % 2)) s d sp dp (fl % 64) false ((bl B).take 40)).length := by rw [hF, ipF_length]
  have hsl8 : (segOf (protoOf (k % 2)) s d sp dp (fl % 64) false ((bl B).take 40)).length ≥ 8 + m ∧ (segOf (protoOf (k % 2)) s d sp dp (fl % 64) false ((bl B).take 40)).length ≤ 60 := by rw [hsl, htl]; split <;> omega
  obtain ⟨F, hFe⟩ : ∃ F, frame (k % 2) s d sp dp fl tt (bl B) false x y = F := ⟨_, rfl⟩
  rw [hFe] at hF hl hP0 hFl ⊢
  have hln : ((numsOf (lb F)).length : Int) = (F.length : Int) := by rw [numsOf_length, lb_size]
  have m0 := Int.emod_nonneg bit (b := 8 * (m : Int)) (by omega)
  have m1 := Int.emod_lt_of_pos bit (b := 8 * (m : Int)) (by omega)
  obtain ⟨r, hr⟩ : ∃ r : Nat, bit % (8 * (m : Int)) = (r : Int) := ⟨(bit % (8 * (m : Int))).toNat, by omega⟩
  rw [if_neg (by omega), if_pos (by rw [lb_size]; omega), Option.bind_some, lb_size, if_neg (by omega), w64 (n := bit) (by omega) (by omega), tm _ bi.1, hr, td 8 (by omega), tm 8 (by omega), w64 (n := (r : Int) / 8) (by omega) (by omega), w64 (n := ((F.length : Nat) : Int) - (m : Int)) (by omega) (by omega), w64 (n := ((F.length : Nat) : Int) - (m : Int) + (r : Int) / 8) (by omega) (by omega), hln, if_pos (by omega), if_pos (by omega), if_pos (by omega)]
  obtain ⟨j, hj⟩ : ∃ j : Nat, ((F.length : Nat) : Int) - (m : Int) + (r : Int) / 8 = (j : Int) := ⟨(((F.length : Nat) : Int) - (m : Int) + (r : Int) / 8).toNat, by omega⟩
  have hjl : j < (bl (lb F)).length := by rw [bl_lb]; omega
  rw [hj, rd_numsOf (lb F) j hjl, Int.toNat_natCast]
  have hx := ((bl (lb F))[j]'hjl).toNat_lt
  obtain ⟨v, hvv, v0, v1, hne, _, _⟩ := bit_turned (x := (((bl (lb F))[j]'hjl).toNat : Int)) (k := (r : Int) % 8) (by omega) (by omega) (by omega) (by omega)
  have h7 : (pkt ((bl (lb F)).set j (UInt8.ofNat v.toNat))).e = 7 := by
    obtain ⟨i, hi⟩ : ∃ i, j = 20 + i := ⟨j - 20, by omega⟩
    subst hi
    have his : i < (segOf (protoOf (k % 2)) s d sp dp (fl % 64) false ((bl B).take 40)).length := by omega
    have hne' : v ≠ (((segOf (protoOf (k % 2)) s d sp dp (fl % 64) false ((bl B).take 40))[i]'his).toNat : Int) := by
      intro h; apply hne; rw [h]
      congr 2
      have e1 : (bl (lb F))[20 + i]'hjl = F[20 + i]'(by omega) := List.getElem_of_eq (bl_lb F) _
      have hz : (ip4Full 0 5 0 0 tt (protoOf (k % 2)) s d [] (20 + ((segOf (protoOf (k % 2)) s d sp dp (fl % 64) false ((bl B).take 40)).length : Int))).length = 20 := by rw [ip4Full_length]; rfl
      have e2 : F[20 + i]'(by omega) = (ipF 5 tt (protoOf (k % 2)) s d (segOf (protoOf (k % 2)) s d sp dp (fl % 64) false ((bl B).take 40)))[20 + i]'(by rw [ipF_length]; omega) := List.getElem_of_eq hF _
      rw [e1, e2]
      unfold ipF
      rw [List.getElem_append_right (by omega)]
      congr 1; omega
    obtain ⟨g1, g2⟩ := seg_turned (t := (bl B).take 40) (e := fl % 64) hp (by omega) b1 b2 b3 b4 (by omega) (i := i + m - (segOf (protoOf (k % 2)) s d sp dp (fl % 64) false ((bl B).take 40)).length) (by omega) i (by omega) his v0 v1 hne'
    rw [bl_lb, hF, ipF_set]
    exact pkt_ver hp b6 b1 b2 (by rw [List.length_set]; omega) g1 g2
  rw [hvv, packet_Classify_eq (by rw [strOfNums_size, List.length_set, numsOf_length, lb_size]; omega), Option.bind_some, bl_turned, packet_Classify_eq (by rw [lb_size]; omega), Option.bind_some, bl_lb]
  simp only
  rw [bl_lb] at h7
  rw [h7, if_pos rfl, hP0]
  rfl

end Go.Proofs.Ytkganedlhcepfaa.Pure
