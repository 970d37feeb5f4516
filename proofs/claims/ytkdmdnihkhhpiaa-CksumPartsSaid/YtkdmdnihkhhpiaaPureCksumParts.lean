/- A text may be summed in two parts, if the first one is even; a byte 0 behind changes nothing; with its check in it, at an even place, its sum is 65535. -/
import Derived.Test.YtkdmdnihkhhpiaaPr7
import Derived.Test.YtkdmdnihkhhpiaaLem
set_option linter.unusedVariables false
set_option linter.unusedSimpArgs false
namespace Go.Proofs.Ytkdmdnihkhhpiaa.Pure
open Go.RowKit Go.Proofs.Ytkdmdnihkhhpiaa.Pr Go.Proofs.Ytkdmdnihkhhpiaa.Sp Go.Proofs.Ytkdmdnihkhhpiaa.Lem Go.Proofs.YtkdmdnihkhhpiaaW.PrintWords Go.Proofs.YtkdmdnihkhhpiaaW.PrintLast Go.Proofs.YtkdmdnihkhhpiaaW.PrintMore

theorem examples_true : weighbridgelaw03_examples.f = some true := by kernel_rfl
theorem two_bytes {n : Int} : strOfNums [n / 256 % 256, n % 256] = lb (two n) := rfl
theorem zero_one : (⟨#[0]⟩ : ByteArray) = lb [0] := rfl
theorem CksumParts_j (s : ByteArray) (at_ : Int) (hs : s.size ≤ 140737488351232) (h0 : 0 ≤ at_) : weighbridgelaw03_CksumParts.j0 1 s at_ true = some true := by
  simp only [weighbridgelaw03_CksumParts.j0]
  rw [w64 (n := (s.size : Int) + 1) (by omega) (by omega), if_neg (by omega), tm _ h0]
  have hm : 0 ≤ at_ % ((s.size : Int) + 1) ∧ at_ % ((s.size : Int) + 1) < (s.size : Int) + 1 := ⟨Int.emod_nonneg _ (by omega), Int.emod_lt_of_pos _ (by omega)⟩
  obtain ⟨m, hm'⟩ : ∃ m, at_ % ((s.size : Int) + 1) = m := ⟨_, rfl⟩
  rw [hm'] at hm ⊢
  rw [td _ hm.1, w64 (n := m / 2) (by omega) (by omega), w64 (n := m / 2 * 2) (by omega) (by omega), cksum_Check_eq (by omega), Option.bind_some, if_pos (by omega), if_pos (by omega), Option.bind_some, two_bytes, zero_one]
  obtain ⟨p, hp⟩ : ∃ p : Nat, (m / 2 * 2).toNat = p := ⟨_, rfl⟩
  have hps : p ≤ s.size ∧ p % 2 = 0 := by omega
  rw [hp]
  have ea : s.extract 0 p = lb ((bl s).take p) := bl_inj (by rw [bl_extract, bl_lb]; rfl)
  have eb : s.extract p s.size = lb ((bl s).drop p) := bl_inj (by rw [bl_extract, bl_lb, List.take_of_length_le (by simp)])
  have la : ((bl s).take p).length = p := by rw [List.length_take, bl_length]; omega
  have hsp : bl s = (bl s).take p ++ (bl s).drop p := (List.take_append_drop _ _).symm
  rw [ea, eb, lb_append, lb_append, if_pos (by rw [lb_size, lb_size, la]; simp; omega), if_pos (by rw [lb_size, lb_size, List.length_append, la]; simp; omega)]
  simp only [if_true]
  rw [cksum_Sum_eq (a0 := s) (by omega), cksum_Sum_eq (a0 := lb ((bl s).take p)) (by rw [lb_size, la]; omega), cksum_Sum_eq (a0 := lb ((bl s).drop p)) (by simp; omega)]
  simp only [Option.bind_some, bl_lb]
  have h1 := Sp.sum_bounds ((bl s).take p)
  have h2 := Sp.sum_bounds ((bl s).drop p)
  rw [cksum_Join_eq (by simp) (by intro x hx; simp at hx; omega), Option.bind_some, ← sum_even _ _ (by omega), ← hsp, if_pos rfl, if_pos (by omega), cksum_Sum_eq (by rw [ByteArray.size_append, lb_size]; simp; omega)]
  simp only [Option.bind_some, bl_append, bl_lb]
  rw [sum_zero, if_pos rfl, cksum_Sum_eq (by rw [lb_size, List.length_append, List.length_append, la]; simp; omega), Option.bind_some, bl_lb, sum_filled _ _ _ hsp (by omega)]
  rfl
theorem CksumParts : weighbridgelaw03_CksumParts.Pure := by
  intro s at_ hs w1
  have b := wf_i64 w1
  refine ⟨1, ?_⟩
  unfold weighbridgelaw03_CksumParts.f
  rw [examples_true]
  simp only [Option.bind_some, if_true]
  by_cases hn : at_ < 0
  · rw [if_pos hn, w64 (n := at_ + 1) (by omega) (by omega), w64 (by omega) (by omega)]
    exact CksumParts_j s _ hs (by omega)
  · rw [if_neg hn]
    exact CksumParts_j s _ hs (by omega)

end Go.Proofs.Ytkdmdnihkhhpiaa.Pure
