/- Any bytes, and those of a segment with some byte another one, are read as the chapter says, or refused. -/
import Derived.Test.YtlhpfoibohiggaaPr10
import Derived.Test.YtlhpfoibohiggaaLem
set_option linter.unusedVariables false
set_option linter.unusedSimpArgs false
namespace Go.Proofs.Ytlhpfoibohiggaa.Pure
open Go.RowKit Go.Proofs.Ytlhpfoibohiggaa.Pr Go.Proofs.Ytlhpfoibohiggaa.Sp Go.Proofs.Ytlhpfoibohiggaa.Lem Go.Proofs.YtlhpfoibohiggaaW.PrintWords Go.Proofs.YtlhpfoibohiggaaW.PrintLast Go.Proofs.YtlhpfoibohiggaaW.PrintMore

theorem examples_true : weighbridgelaw05_examples.f = some true := by kernel_rfl
theorem tail_true (s : ByteArray) (h : s.size ≤ 140737488355328) :
    ((tcp_Parse.f s).bind fun x => ((weighbridgeref05_Parse.f s).bind fun y => (if true = true then ((weighbridgelaw05_ref.f x.1 x.2.1 x.2.2.1 x.2.2.2.1 x.2.2.2.2.1 x.2.2.2.2.2.1 x.2.2.2.2.2.2.1 x.2.2.2.2.2.2.2.1).bind fun z => (if (z.1 == y.1 && (z.2.1 == y.2.1 && (z.2.2.1 == y.2.2.1 && (z.2.2.2.1 == y.2.2.2.1 && (z.2.2.2.2.1 == y.2.2.2.2.1 && (z.2.2.2.2.2.1 == y.2.2.2.2.2.1 && (z.2.2.2.2.2.2.1 == y.2.2.2.2.2.2.1 && (z.2.2.2.2.2.2.2.toList == y.2.2.2.2.2.2.2.1.toList)))))))) = true then (if x.2.2.2.2.2.2.2.2.1.toList = y.2.2.2.2.2.2.2.2.1.toList then (some (x.2.2.2.2.2.2.2.2.2 == y.2.2.2.2.2.2.2.2.2)) else (some false)) else (some false))) else (some false)))) = some true := by
  rw [tcp_Parse_eq h, Option.bind_some, weighbridgeref05_Parse_eq h, Option.bind_some, if_pos rfl]
  unfold weighbridgelaw05_ref.f
  rw [Option.bind_some, if_pos (by simp), if_pos rfl]
  simp
theorem turned (t : ByteArray) (i by_ : Int) (h : 0 ≤ i) (ht : 0 < t.size) (hm : t.size ≤ 1500) {F : ByteArray → Option Bool} (hF : ∀ s : ByteArray, s.size ≤ 140737488355328 → F s = some true) :
    (if ((numsOf t).length : Int) = 0 then (none) else (if 0 ≤ (Int.tmod i ((numsOf t).length : Int)) then (if (Int.tmod i ((numsOf t).length : Int)) < ((numsOf t).length : Int) then ((some ((numsOf t).set ((Int.tmod i ((numsOf t).length : Int)) : Int).toNat by_ : List Int)).bind fun y => F (strOfNums y)) else (none)) else (none))) = some true := by
  have hn : ((numsOf t).length : Int) = (t.size : Int) := by rw [numsOf_length]
  rw [hn, if_neg (by omega), Int.tmod_eq_emod_of_nonneg h, if_pos (Int.emod_nonneg _ (by omega)), if_pos (Int.emod_lt_of_pos _ (by omega)), Option.bind_some]
  exact hF _ (by rw [strOfNums_size, List.length_set, numsOf_length]; omega)
theorem tcpBuild_len {a b c d e f g : Int} {o s : List UInt8} (h : (tcpBuild a b c d e f g o s).2 = 0) : 0 < (tcpBuild a b c d e f g o s).1.length ∧ (tcpBuild a b c d e f g o s).1.length ≤ 1500 := by
  unfold tcpBuild at h ⊢
  by_cases r : tcpRight a b e f g o = true
  · rw [if_pos r] at h ⊢
    by_cases hz : 20 + (o.length : Int) + (s.length : Int) > 1500
    · rw [if_pos hz] at h; cases h
    · rw [if_neg hz]
      simp only [List.length_append, tcpHead_length]; omega
  · rw [if_neg r] at h; cases h
theorem TcpParses : weighbridgelaw05_TcpParses.Pure := by
  intro s a b c d e f g o y own i by_ ws w0 w1 w2 w3 w4 w5 w6 wo wy wi wb
  have b2 := wf_u32 w2
  have b3 := wf_u32 w3
  have bi := wf_i64 wi
  refine ⟨1, ?_⟩
  unfold weighbridgelaw05_TcpParses.f weighbridgelaw05_ref.f
  rw [examples_true, Option.bind_some, if_pos rfl, Option.bind_some]
  show (weighbridgeref05_Build.f a b c d e f g o y).bind _ = _
  rw [weighbridgeref05_Build_eq b2 b3 (by omega) (by omega), Option.bind_some]
  have fin : weighbridgelaw05_TcpParses.j0 1 s i by_ true (lb (tcpBuild a b c d e f g (bl o) (bl y)).1) false = some true := by
    simp only [weighbridgelaw05_TcpParses.j0]
    rw [if_neg (by decide)]
    exact tail_true s (by omega)
  by_cases ho : own = true
  · rw [if_pos ho]
    show weighbridgelaw05_TcpParses.j0 1 s i by_ true (lb (tcpBuild a b c d e f g (bl o) (bl y)).1) ((tcpBuild a b c d e f g (bl o) (bl y)).2 == 0) = some true
    by_cases he : (tcpBuild a b c d e f g (bl o) (bl y)).2 = 0
    · have hl := tcpBuild_len he
      rw [he]
      simp only [weighbridgelaw05_TcpParses.j0]
      rw [if_pos (by decide), if_pos (by rw [lb_size]; omega), Option.bind_some]
      by_cases hi : i < 0
      · rw [if_pos hi, w64 (n := i + 1) (by omega) (by omega), w64 (n := -(i + 1)) (by omega) (by omega)]
        exact turned _ _ _ (by omega) (by rw [lb_size]; omega) (by rw [lb_size]; omega) (fun s hs => tail_true s hs)
      · rw [if_neg hi]
        exact turned _ _ _ (by omega) (by rw [lb_size]; omega) (by rw [lb_size]; omega) (fun s hs => tail_true s hs)
    · rw [show ((tcpBuild a b c d e f g (bl o) (bl y)).2 == 0) = false by simp [he]]
      exact fin
  · rw [if_neg ho]
    exact fin

end Go.Proofs.Ytlhpfoibohiggaa.Pure
