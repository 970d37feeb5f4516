/- Two numbers that are set at places that are apart are both got, in whatever order they are set. -/
import Derived.Test.YtkdmdnihkhhpiaaPr14
import Derived.Test.YtkdmdnihkhhpiaaLem
set_option linter.unusedVariables false
set_option linter.unusedSimpArgs false
namespace Go.Proofs.Ytkdmdnihkhhpiaa.Pure
open Go.RowKit Go.Proofs.Ytkdmdnihkhhpiaa.Pr Go.Proofs.Ytkdmdnihkhhpiaa.Sp Go.Proofs.Ytkdmdnihkhhpiaa.Lem Go.Proofs.YtkdmdnihkhhpiaaW.PrintWords Go.Proofs.YtkdmdnihkhhpiaaW.PrintLast Go.Proofs.YtkdmdnihkhhpiaaW.PrintMore

theorem examples_true : weighbridgelaw01_examples.f = some true := by kernel_rfl
theorem places (l : List UInt8) (a b : Int) (p : Nat) (ha : 0 ≤ a) (ha2 : a < 4294967296) (hb : 0 ≤ b) (hb2 : b < 4294967296) (h4 : 4 ≤ p) (hl : p + 4 ≤ l.length) :
    Sp.set l 0 4 a = (beBytes 4 a ++ l.drop 4, true) ∧ Sp.set (beBytes 4 a ++ l.drop 4) p 4 b = (beBytes 4 a ++ ((l.drop 4).take (p - 4) ++ beBytes 4 b ++ l.drop (p + 4)), true) ∧
    Sp.set l p 4 b = (l.take p ++ beBytes 4 b ++ l.drop (p + 4), true) ∧ Sp.set (l.take p ++ beBytes 4 b ++ l.drop (p + 4)) 0 4 a = (beBytes 4 a ++ ((l.drop 4).take (p - 4) ++ beBytes 4 b ++ l.drop (p + 4)), true) ∧
    Sp.get (beBytes 4 a ++ ((l.drop 4).take (p - 4) ++ beBytes 4 b ++ l.drop (p + 4))) 0 4 = (a, true) ∧ Sp.get (beBytes 4 a ++ ((l.drop 4).take (p - 4) ++ beBytes 4 b ++ l.drop (p + 4))) p 4 = (b, true) := by
  have fa : fits 4 a = true := fits_iff.2 ⟨by omega, by omega, ha, by simp; omega⟩
  have fb : fits 4 b = true := fits_iff.2 ⟨by omega, by omega, hb, by simp; omega⟩
  have e4 : (4 : Int).toNat = 4 := rfl
  have ep : ((p : Int) + 4).toNat = p + 4 := by omega
  have la : (beBytes 4 a).length = 4 := beBytes_length ..
  have lb' : (beBytes 4 b).length = 4 := beBytes_length ..
  have lm : ((l.drop 4).take (p - 4)).length = p - 4 := by simp; omega
  refine ⟨?_, ?_, ?_, ?_, ?_, ?_⟩
  · rw [set_yes fa (has_iff.2 ⟨by omega, by omega, by omega, by omega⟩)]; rfl
  · rw [set_yes fb (has_iff.2 ⟨by omega, by omega, by omega, by simp; omega⟩), ep, Int.toNat_natCast, e4, List.take_append, List.drop_append, List.take_of_length_le (by omega), List.drop_of_length_le (l := beBytes 4 a) (by omega), la, List.drop_drop]
    simp only [List.append_assoc, List.nil_append]
    rw [show 4 + (p + 4 - 4) = p + 4 by omega]
  · rw [set_yes fb (has_iff.2 ⟨by omega, by omega, by omega, by omega⟩), ep, Int.toNat_natCast]; rfl
  · rw [set_yes fa (has_iff.2 ⟨by omega, by omega, by omega, by simp; omega⟩)]
    have lt : (l.take p).length = p := by rw [List.length_take]; omega
    simp only [Int.toNat_zero, List.take_zero, List.nil_append, show ((0 : Int) + 4).toNat = 4 from rfl, e4]
    rw [List.append_assoc, List.drop_append, lt, show 4 - p = 0 by omega, List.drop_zero, List.drop_take, List.append_assoc]
  · rw [get_yes (has_iff.2 ⟨by omega, by omega, by omega, by simp; omega⟩)]
    simp only [Int.toNat_zero, List.drop_zero, e4]
    rw [List.take_left' la, beNum_beBytes _ _ ha (by omega)]
  · rw [get_yes (has_iff.2 ⟨by omega, by omega, by omega, by simp; omega⟩), Int.toNat_natCast, e4, List.drop_append, List.drop_of_length_le (by omega), la, List.nil_append, List.append_assoc, List.drop_left' lm, List.take_left' lb', beNum_beBytes _ _ hb (by omega)]
theorem OctetPlaces_j (s : ByteArray) (a b at_ : Int) (hs : s.size ≤ 140737488351232) (ha : 0 ≤ a) (ha2 : a < 4294967296) (hb : 0 ≤ b) (hb2 : b < 4294967296) (h8 : 8 ≤ s.size) (h0 : 0 ≤ at_) :
    weighbridgelaw01_OctetPlaces.j0 1 s a b at_ true = some true := by
  simp only [weighbridgelaw01_OctetPlaces.j0]
  rw [w64 (n := (s.size : Int) - 7) (by omega) (by omega), if_neg (by omega), w64 (n := a) (by omega) (by omega), w64 (n := b) (by omega) (by omega), tm _ h0]
  have hm : 0 ≤ at_ % ((s.size : Int) - 7) ∧ at_ % ((s.size : Int) - 7) < (s.size : Int) - 7 := ⟨Int.emod_nonneg _ (by omega), Int.emod_lt_of_pos _ (by omega)⟩
  rw [w64 (n := 4 + _) (by omega) (by omega)]
  obtain ⟨p, hp⟩ := Int.eq_ofNat_of_zero_le (show 0 ≤ 4 + at_ % ((s.size : Int) - 7) by omega)
  rw [hp]
  obtain ⟨e1, e2, e3, e4, e5, e6⟩ := places (bl s) a b p ha ha2 hb hb2 (by omega) (by rw [bl_length]; omega)
  have l4 := beBytes_length 4 a
  have l5 := beBytes_length 4 b
  rw [octet_Set_eq s 0 4 a (by omega), e1, octet_Set_eq s p 4 b (by omega), e3]
  simp only [Option.bind_some]
  rw [octet_Set_eq _ p 4 b (by simp; omega), octet_Set_eq _ 0 4 a (by simp; omega), bl_lb, bl_lb, e2, e4]
  simp only [Option.bind_some]
  rw [octet_Get_eq _ 0 4 (by simp; omega), octet_Get_eq _ p 4 (by simp; omega), bl_lb, e5, e6]
  simp
theorem OctetPlaces : weighbridgelaw01_OctetPlaces.Pure := by
  intro s a b at_ hs w1 w2 w3
  have b1 := wf_u32 w1
  have b2 := wf_u32 w2
  have b3 := wf_i64 w3
  refine ⟨1, ?_⟩
  unfold weighbridgelaw01_OctetPlaces.f
  rw [examples_true]
  simp only [Option.bind_some, if_true]
  by_cases h : (s.size : Int) < 8
  · rw [if_pos h]
  · rw [if_neg h]
    by_cases hn : at_ < 0
    · rw [if_pos hn, w64 (n := at_ + 1) (by omega) (by omega), w64 (by omega) (by omega)]
      exact OctetPlaces_j s a b _ hs b1.1 (by omega) b2.1 (by omega) (by omega) (by omega)
    · rw [if_neg hn]
      exact OctetPlaces_j s a b _ hs b1.1 (by omega) b2.1 (by omega) (by omega) (by omega)

end Go.Proofs.Ytkdmdnihkhhpiaa.Pure
