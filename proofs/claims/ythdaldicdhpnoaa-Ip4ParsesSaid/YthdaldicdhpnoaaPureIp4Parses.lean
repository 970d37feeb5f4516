/- Any bytes, and those of a packet with some byte another one, are read as the chapter says, or refused, with the first of all errors. -/
import Derived.Test.YthdaldicdhpnoaaPr19
import Derived.Test.YthdaldicdhpnoaaLem
set_option linter.unusedVariables false
set_option linter.unusedSimpArgs false
namespace Go.Proofs.Ythdaldicdhpnoaa.Pure
open Go.RowKit Go.Proofs.Ythdaldicdhpnoaa.Pr Go.Proofs.Ythdaldicdhpnoaa.Sp Go.Proofs.Ythdaldicdhpnoaa.Lem Go.Proofs.YthdaldicdhpnoaaW.PrintWords Go.Proofs.YthdaldicdhpnoaaW.PrintLast Go.Proofs.YthdaldicdhpnoaaW.PrintMore

theorem examples_true : weighbridgelaw04_examples.f = some true := by kernel_rfl
theorem tail_true (s : ByteArray) (h : s.size ≤ 140737488355328) (k : Nat) : weighbridgelaw04_Ip4Parses.j1 (k + 1) s true = some true := by
  rw [weighbridgelaw04_Ip4Parses.j1, ip4_Parse_eq h, Option.bind_some, weighbridgeref04_Parse_eq h, Option.bind_some]
  unfold ip4_Size.f
  rw [ip4_sizes_eq h, Option.bind_some, Option.bind_some, weighbridgeref04_Sizes_eq h, Option.bind_some, if_pos rfl]
  unfold weighbridgelaw04_ref.f
  rw [Option.bind_some, if_pos (by simp), if_pos rfl, if_pos rfl, if_pos rfl, if_pos rfl]
  simp
theorem turned (t more : ByteArray) (i by_ : Int) (h : 0 ≤ i) (ht : 0 < t.size) (hm : t.size ≤ 1500) (hmo : more.size ≤ 140737488351232) :
    (if ((numsOf t).length : Int) = 0 then (none) else (if 0 ≤ (Int.tmod i ((numsOf t).length : Int)) then (if (Int.tmod i ((numsOf t).length : Int)) < ((numsOf t).length : Int) then ((some ((numsOf t).set ((Int.tmod i ((numsOf t).length : Int)) : Int).toNat by_ : List Int)).bind fun y => (if (strOfNums y).size + more.size ≤ 9223372036854775807 then (weighbridgelaw04_Ip4Parses.j1 1 ((strOfNums y) ++ more) true) else (none))) else (none)) else (none))) = some true := by
  have hn : ((numsOf t).length : Int) = (t.size : Int) := by rw [numsOf_length]
  rw [hn, if_neg (by omega), Int.tmod_eq_emod_of_nonneg h, if_pos (Int.emod_nonneg _ (by omega)), if_pos (Int.emod_lt_of_pos _ (by omega)), Option.bind_some]
  have hz : (strOfNums ((numsOf t).set (i % (t.size : Int)).toNat by_)).size = t.size := by rw [strOfNums_size, List.length_set, numsOf_length]
  rw [if_pos (by rw [hz]; omega)]
  exact tail_true _ (by rw [ByteArray.size_append, hz]; omega) 0
theorem Ip4Parses : weighbridgelaw04_Ip4Parses.Pure := by
  intro s t i f g l p a b o y own x by_ more ws w0 w1 w2 w3 w4 w5 w6 w7 wo wy wx wb wm
  have b6 := wf_u32 w6
  have b7 := wf_u32 w7
  have bx := wf_i64 wx
  refine ⟨2, ?_⟩
  unfold weighbridgelaw04_Ip4Parses.f weighbridgelaw04_ref.f
  rw [examples_true, Option.bind_some, if_pos rfl, Option.bind_some]
  simp only
  rw [weighbridgeref04_Build_eq b6 b7 (by omega) (by omega), Option.bind_some]
  simp only
  have fin : weighbridgelaw04_Ip4Parses.j0 2 s x by_ more true (lb (ip4Build t i f g l p a b (bl o) (bl y)).1) false = some true := by
    rw [weighbridgelaw04_Ip4Parses.j0, if_neg (by decide)]
    exact tail_true s (by omega) 0
  by_cases ho : own = true
  · rw [if_pos ho]
    by_cases he : (ip4Build t i f g l p a b (bl o) (bl y)).2 = 0
    · have hl := ip4Build_len he
      rw [he, weighbridgelaw04_Ip4Parses.j0, if_pos (by decide), if_pos (by rw [lb_size]; omega), Option.bind_some]
      by_cases hi : x < 0
      · rw [if_pos hi, w64 (n := x + 1) (by omega) (by omega), w64 (n := -(x + 1)) (by omega) (by omega)]
        exact turned _ _ _ _ (by omega) (by rw [lb_size]; omega) (by rw [lb_size]; omega) wm
      · rw [if_neg hi]
        exact turned _ _ _ _ (by omega) (by rw [lb_size]; omega) (by rw [lb_size]; omega) wm
    · rw [show ((ip4Build t i f g l p a b (bl o) (bl y)).2 == 0) = false by simp [he]]
      exact fin
  · rw [if_neg ho]
    exact fin

end Go.Proofs.Ythdaldicdhpnoaa.Pure
