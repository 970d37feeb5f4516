/- A word behind an even text is added to its sum; a word of 0 changes nothing. -/
import Derived.Test.YtkdmdnihkhhpiaaPr9
import Derived.Test.YtkdmdnihkhhpiaaLem
set_option linter.unusedVariables false
set_option linter.unusedSimpArgs false
namespace Go.Proofs.Ytkdmdnihkhhpiaa.Pure
open Go.RowKit Go.Proofs.Ytkdmdnihkhhpiaa.Pr Go.Proofs.Ytkdmdnihkhhpiaa.Sp Go.Proofs.Ytkdmdnihkhhpiaa.Lem Go.Proofs.YtkdmdnihkhhpiaaW.PrintWords Go.Proofs.YtkdmdnihkhhpiaaW.PrintLast Go.Proofs.YtkdmdnihkhhpiaaW.PrintMore

theorem examples_true : weighbridgelaw03_examples.f = some true := by kernel_rfl
theorem two_bytes {n : Int} : strOfNums [n / 256 % 256, n % 256] = lb (two n) := rfl
theorem zero_two : (⟨#[0, 0]⟩ : ByteArray) = lb [0, 0] := rfl
theorem sum_word (t : List UInt8) (w : Int) (h0 : 0 ≤ w) (h1 : w ≤ 65535) (h2 : t.length % 2 = 0) : Sp.sum (t ++ two w) = Sp.join [Sp.sum t, w] := by
  unfold Sp.sum Sp.join
  rw [wsum_even _ _ h2, wsum_word h0 h1, List.sum_cons, List.sum_cons, List.sum_nil, Int.add_zero, fold16_add_left (wsum_bounds _).1 h0]
theorem wsum_00 : wsum (wl [0, 0]) = 0 := rfl
theorem sum_00 (t : List UInt8) (h2 : t.length % 2 = 0) : Sp.sum (t ++ [0, 0]) = Sp.sum t := by
  unfold Sp.sum
  rw [wsum_even _ _ h2, wsum_00, Int.add_zero]
theorem CksumWords_t (t : List UInt8) (w : Int) (h0 : 0 ≤ w) (h1 : w ≤ 65535) (h2 : t.length % 2 = 0) (h3 : t.length ≤ 140737488355328) :
    cksum_Sum.f (lb (t ++ two w)) = some (Sp.sum (t ++ two w)) ∧ cksum_Sum.f (lb t) = some (Sp.sum t) ∧ cksum_Join.f [Sp.sum t, w] = some (Sp.sum (t ++ two w)) ∧ cksum_Sum.f (lb (t ++ [0, 0])) = some (Sp.sum t) ∧
    cksum_Check.f (lb (t ++ two w)) = some (65535 - Sp.sum (t ++ two w)) := by
  have l1 : (lb (t ++ two w)).size = t.length + 2 := by rw [lb_size, List.length_append, two_length]
  have l2 : (lb (t ++ [0, 0])).size = t.length + 2 := by rw [lb_size, List.length_append]; rfl
  have l3 : (lb t).size = t.length := lb_size t
  have hb := Sp.sum_bounds t
  refine ⟨?_, ?_, ?_, ?_, ?_⟩
  · rw [cksum_Sum_eq (by omega), bl_lb]
  · rw [cksum_Sum_eq (by omega), bl_lb]
  · rw [cksum_Join_eq (by simp) (by intro x hx; simp at hx; omega), sum_word t w h0 h1 h2]
  · rw [cksum_Sum_eq (by omega), bl_lb, sum_00 t h2]
  · rw [cksum_Check_eq (by omega), bl_lb]; rfl
theorem CksumWords : weighbridgelaw03_CksumWords.Pure := by
  intro s w hs w1
  have b := wf_u16 w1
  unfold weighbridgelaw03_CksumWords.f
  rw [examples_true, Option.bind_some, if_pos rfl]
  rw [w64 (n := (s.size : Int) / 2) (by omega) (by omega), w64 (n := (s.size : Int) / 2 * 2) (by omega) (by omega), if_pos (by omega), if_pos (by omega), Option.bind_some, two_bytes, zero_two]
  obtain ⟨p, hp⟩ : ∃ p : Nat, ((s.size : Int) / 2 * 2).toNat = p := ⟨_, rfl⟩
  have hps : p ≤ s.size ∧ p % 2 = 0 := by omega
  rw [hp]
  obtain ⟨t, ht⟩ : ∃ t, bl (s.extract 0 p) = t := ⟨_, rfl⟩
  have htl : t.length = p := by rw [← ht, bl_length, ByteArray.size_extract]; omega
  have e : s.extract 0 p = lb t := by rw [← ht, lb_bl]
  obtain ⟨e1, e2, e3, e4, e5⟩ := CksumWords_t t w b.1 b.2 (by omega) (by omega)
  rw [e, lb_append, lb_append, if_pos (by rw [lb_size, lb_size, two_length]; omega), e1, e2, Option.bind_some, Option.bind_some, e3, Option.bind_some]
  rw [if_pos rfl, if_pos (by rw [lb_size]; omega), e4, Option.bind_some, Option.bind_some, if_pos rfl, e5, Option.bind_some, Option.bind_some]
  have hb2 := Sp.sum_bounds (t ++ two w)
  rw [w16 (by omega) (by omega), beq_self_eq_true]

end Go.Proofs.Ytkdmdnihkhhpiaa.Pure
