/- Any bytes, and those of a message with some byte another one, are read as the chapter says, or refused (texts of at most 1048576 bytes). -/
import Derived.Test.YthmpmladneiegaaPr22
import Derived.Test.YthmpmladneiegaaLem
set_option linter.unusedVariables false
set_option linter.unusedSimpArgs false
namespace Go.Proofs.Ythmpmladneiegaa.Pure
open Go.RowKit Go.Proofs.Ythmpmladneiegaa.Pr Go.Proofs.Ythmpmladneiegaa.Sp Go.Proofs.Ythmpmladneiegaa.Lem Go.Proofs.YthmpmladneiegaaW.PrintWords Go.Proofs.YthmpmladneiegaaW.PrintLast Go.Proofs.YthmpmladneiegaaW.PrintMore

theorem examples_true : weighbridgelaw07_examples.f = some true := by kernel_rfl
theorem parse_same (s : ByteArray) (h : s.size ≤ 17592186044416) : ∃ a b c d e, icmp_Parse.f s = some (a, b, c, d, e) ∧ weighbridgeref07_Parse.f s = some (a, b, c, d, e) := by
  unfold icmp_Parse.f weighbridgeref07_Parse.f
  rw [octet_Get_eq _ _ _ (by omega), Option.bind_some]
  by_cases h8 : (s.size : Int) < 8
  · rw [if_pos h8, get_no (has_no (by rw [bl_length]; omega)), if_neg (by decide)]
    exact ⟨_, _, _, _, _, rfl, rfl⟩
  · rw [if_neg h8, get_yes (has_iff.2 ⟨by decide, by decide, by decide, by rw [bl_length]; omega⟩), if_pos rfl, cksum_Sum_eq (by omega), Option.bind_some, weighbridgeref03_Sum_eq (by omega), Option.bind_some]
    by_cases hs : sum (bl s) = 65535
    · rw [if_pos hs, if_pos hs, if_pos (by omega), if_pos (by omega), if_pos (by omega), weighbridgeref01_Get_eq _ _ _ (by omega), Option.bind_some, get_yes (has_iff.2 ⟨by decide, by decide, by decide, by rw [bl_length]; omega⟩), if_pos (by omega), if_pos (by omega), if_pos (by omega)]
      exact ⟨_, _, _, _, _, rfl, rfl⟩
    · rw [if_neg hs, if_neg hs]
      exact ⟨_, _, _, _, _, rfl, rfl⟩
theorem tail_true (s : ByteArray) (h : s.size ≤ 17592186044416) :
    ((icmp_Parse.f s).bind fun x => ((weighbridgeref07_Parse.f s).bind fun y => (if true = true then ((weighbridgelaw07_ref.f x.1 x.2.1 x.2.2.1 x.2.2.2.1).bind fun z => (if (z.1 == y.1 && (z.2.1 == y.2.1 && (z.2.2.1 == y.2.2.1 && (z.2.2.2.toList == y.2.2.2.1.toList)))) = true then (some (x.2.2.2.2 == y.2.2.2.2)) else (some false))) else (some false)))) = some true := by
  obtain ⟨a, b, c, d, e, h1, h2⟩ := parse_same s h
  rw [h1, Option.bind_some, h2, Option.bind_some, if_pos rfl]
  unfold weighbridgelaw07_ref.f
  rw [Option.bind_some, if_pos (by simp)]
  simp
theorem turned (t : ByteArray) (i by_ : Int) (h : 0 ≤ i) (ht : 0 < t.size) (hm : t.size ≤ 1500) {F : ByteArray → Option Bool} (hF : ∀ s : ByteArray, s.size ≤ 17592186044416 → F s = some true) :
    (if ((numsOf t).length : Int) = 0 then (none) else (if 0 ≤ (Int.tmod i ((numsOf t).length : Int)) then (if (Int.tmod i ((numsOf t).length : Int)) < ((numsOf t).length : Int) then ((some ((numsOf t).set ((Int.tmod i ((numsOf t).length : Int)) : Int).toNat by_ : List Int)).bind fun y => F (strOfNums y)) else (none)) else (none))) = some true := by
  have hn : ((numsOf t).length : Int) = (t.size : Int) := by rw [numsOf_length]
  rw [hn, if_neg (by omega), Int.tmod_eq_emod_of_nonneg h, if_pos (Int.emod_nonneg _ (by omega)), if_pos (Int.emod_lt_of_pos _ (by omega)), Option.bind_some]
  exact hF _ (by rw [strOfNums_size, List.length_set, numsOf_length]; omega)
theorem icmpBuild_len {t c r : Int} {b : List UInt8} (h : (icmpBuild t c r b).2 = 0) : 0 < (icmpBuild t c r b).1.length ∧ (icmpBuild t c r b).1.length ≤ 1500 := by
  unfold icmpBuild at h ⊢
  by_cases f : fits 1 t = true ∧ fits 1 c = true
  · rw [if_pos f] at h ⊢
    by_cases hz : 8 + (b.length : Int) > 1500
    · rw [if_pos hz] at h; cases h
    · rw [if_neg hz, icmpBytes_length f]; omega
  · rw [if_neg f] at h; cases h
theorem IcmpParsesU : weighbridgelaw07_IcmpParses.PureU := by
  intro s t c r b own i by_ ws w0 w1 w2 wb wi w4
  have b2 := wf_u32 w2
  have bi := wf_i64 wi
  refine ⟨1, ?_⟩
  unfold weighbridgelaw07_IcmpParses.f
  rw [examples_true, Option.bind_some, if_pos rfl]
  show (weighbridgeref07_Build.f t c r b).bind _ = _
  rw [weighbridgeref07_Build_eq b2 (by omega), Option.bind_some]
  have fin : weighbridgelaw07_IcmpParses.j0 1 s i by_ true (lb (icmpBuild t c r (bl b)).1) false = some true := by
    simp only [weighbridgelaw07_IcmpParses.j0]
    rw [if_neg (by decide)]
    exact tail_true s (by omega)
  by_cases ho : own = true
  · rw [if_pos ho]
    by_cases he : (icmpBuild t c r (bl b)).2 = 0
    · have hl := icmpBuild_len he
      show weighbridgelaw07_IcmpParses.j0 1 s i by_ true (lb (icmpBuild t c r (bl b)).1) ((icmpBuild t c r (bl b)).2 == 0) = some true
      rw [he]
      simp only [weighbridgelaw07_IcmpParses.j0]
      rw [if_pos (by decide), if_pos (by rw [lb_size]; omega), Option.bind_some]
      by_cases hi : i < 0
      · rw [if_pos hi, w64 (n := i + 1) (by omega) (by omega), w64 (n := -(i + 1)) (by omega) (by omega)]
        exact turned _ _ _ (by omega) (by rw [lb_size]; omega) (by rw [lb_size]; omega) (fun s hs => tail_true s hs)
      · rw [if_neg hi]
        exact turned _ _ _ (by omega) (by rw [lb_size]; omega) (by rw [lb_size]; omega) (fun s hs => tail_true s hs)
    · show weighbridgelaw07_IcmpParses.j0 1 s i by_ true (lb (icmpBuild t c r (bl b)).1) ((icmpBuild t c r (bl b)).2 == 0) = some true
      rw [show ((icmpBuild t c r (bl b)).2 == 0) = false by simp [he]]
      exact fin
  · rw [if_neg ho]
    exact fin

end Go.Proofs.Ythmpmladneiegaa.Pure
