/- What has no room is not set, and not got: behind the last byte, ahead of the first one, in no bytes, or in too many. -/
import Derived.Test.YtkdmdnihkhhpiaaPr13
import Derived.Test.YtkdmdnihkhhpiaaLem
set_option linter.unusedVariables false
set_option linter.unusedSimpArgs false
namespace Go.Proofs.Ytkdmdnihkhhpiaa.Pure
open Go.RowKit Go.Proofs.Ytkdmdnihkhhpiaa.Pr Go.Proofs.Ytkdmdnihkhhpiaa.Sp Go.Proofs.Ytkdmdnihkhhpiaa.Lem Go.Proofs.YtkdmdnihkhhpiaaW.PrintWords Go.Proofs.YtkdmdnihkhhpiaaW.PrintLast Go.Proofs.YtkdmdnihkhhpiaaW.PrintMore

theorem examples_true : weighbridgelaw01_examples.f = some true := by kernel_rfl
theorem OctetEnds : weighbridgelaw01_OctetEnds.Pure := by
  intro s z n hs w1 w2
  have b1 := wf_u8 w1
  have b2 := wf_u32 w2
  obtain ⟨k, hk, hk1, hk4⟩ := size4 b1.1 b1.2
  have e8 : wrap64 (8 * (k : Int)) = ((8 * k : Nat) : Int) := by rw [w64 (by omega) (by omega)]; omega
  have eS : shl .i64 1 ((8 * k : Nat) : Int) = 256 ^ k := by rw [shl64 _ (by omega), pow8]
  have hp : (0 : Int) < 256 ^ k := Int.pow_pos (by decide)
  have hp2 : (256 : Int) ^ k ≤ 4294967296 := by
    rcases (by omega : k = 1 ∨ k = 2 ∨ k = 3 ∨ k = 4) with rfl | rfl | rfl | rfl <;> decide
  have eA : Go.bits .and .i64 n ((256 : Int) ^ k - 1) = n % 256 ^ k := by
    have := and64 (8 * k) (by omega) b2.1 (by omega)
    rwa [pow8] at this
  have eF : ∀ m : Int, fits k m = decide (0 ≤ m ∧ m < 256 ^ k) := fun m => by
    unfold fits; exact decide_eq_decide.2 (by rw [Int.toNat_natCast]; constructor <;> (rintro ⟨h1, h2⟩; first | exact ⟨h2.2.1, h2.2.2⟩ | exact ⟨by omega, by omega, h1, h2⟩))
  unfold weighbridgelaw01_OctetEnds.f
  rw [examples_true]
  simp only [Option.bind_some, if_true, hk, octet_Put.f, e8, eS]
  revert eA eF hp hp2
  generalize (256 : Int) ^ k = M
  intro hp hp2 eA eF
  rw [w64 (n := n) (by omega) (by omega), if_pos (by omega), w64 (n := (s.size : Int) - (k : Int)) (by omega) (by omega), w64 (n := (s.size : Int) - (k : Int) + 1) (by omega) (by omega), w64 (n := M - 1) (by omega) (by omega), eA]
  have hm : 0 ≤ n % M ∧ n % M < M := ⟨Int.emod_nonneg _ (by omega), Int.emod_lt_of_pos _ hp⟩
  have hf : fits k (n % M) = true := by rw [eF]; exact decide_eq_true hm
  have hs2 : s.size ≤ 281474976710656 := by omega
  rw [octet_Get_eq s _ _ hs2, octet_Get_eq s _ _ hs2, octet_Get_eq s _ _ hs2, octet_Get_eq s _ _ hs2, octet_Set_eq s _ _ _ hs2, octet_Set_eq s _ _ _ hs2]
  simp only [Option.bind_some]
  have f1 : fits k (-1) = false := by rw [eF]; exact decide_eq_false (by omega)
  have f2 : fits k M = false := by rw [eF]; exact decide_eq_false (by omega)
  rw [get_no (has_no (by rw [bl_length]; omega)), get_no (has_no (by omega)), get_no (has_no (by omega)), get_no (has_no (by omega)), set_no (a := (s.size : Int) - (k : Int) + 1) (fun h => by have := has_iff.1 h.2; rw [bl_length] at this; omega), put_no f1, put_no f2]
  by_cases h : (s.size : Int) ≥ k
  · rw [set_yes hf (has_iff.2 ⟨by omega, by omega, by omega, by rw [bl_length]; omega⟩), decide_eq_true h]; rfl
  · rw [set_no (fun h => by have := has_iff.1 h.2; rw [bl_length] at this; omega), decide_eq_false h]; rfl

end Go.Proofs.Ytkdmdnihkhhpiaa.Pure
