/- What is built is parsed as it was; what is parsed is built as it stood, but for its check. -/
import Derived.Test.YtlhpfoibohiggaaPr11
import Derived.Test.YtlhpfoibohiggaaLem
set_option linter.unusedVariables false
set_option linter.unusedSimpArgs false
namespace Go.Proofs.Ytlhpfoibohiggaa.Pure
open Go.RowKit Go.Proofs.Ytlhpfoibohiggaa.Pr Go.Proofs.Ytlhpfoibohiggaa.Sp Go.Proofs.Ytlhpfoibohiggaa.Lem Go.Proofs.YtlhpfoibohiggaaW.PrintWords Go.Proofs.YtlhpfoibohiggaaW.PrintLast Go.Proofs.YtlhpfoibohiggaaW.PrintMore

theorem examples_true : weighbridgelaw05_examples.f = some true := by kernel_rfl
theorem get_small (s : List UInt8) (a b : Int) : 0 ≤ (Sp.get s a b).1 ∧ (Sp.get s a b).1 ≤ 4294967295 := by
  unfold Sp.get
  split
  case isFalse => exact ⟨by decide, by decide⟩
  case isTrue h =>
    have hf := has_iff.1 h
    have := beNum_small ((s.drop a.toNat).take b.toNat) (by rw [List.length_take]; omega)
    exact ⟨this.1, by omega⟩
theorem parse_bounds (s : List UInt8) : (0 ≤ (tcpParse s).seq ∧ (tcpParse s).seq ≤ 4294967295) ∧ (0 ≤ (tcpParse s).ack ∧ (tcpParse s).ack ≤ 4294967295) ∧ (tcpParse s).opts.length ≤ s.length ∧ (tcpParse s).body.length ≤ s.length := by
  unfold tcpParse
  split
  · exact ⟨⟨by decide, by decide⟩, ⟨by decide, by decide⟩, Nat.zero_le _, Nat.zero_le _⟩
  · split
    · exact ⟨⟨by decide, by decide⟩, ⟨by decide, by decide⟩, Nat.zero_le _, Nat.zero_le _⟩
    · split
      · exact ⟨get_small _ _ _, get_small _ _ _, by rw [List.length_drop, List.length_take]; omega, by rw [List.length_drop]; omega⟩
      · exact ⟨⟨by decide, by decide⟩, ⟨by decide, by decide⟩, Nat.zero_le _, Nat.zero_le _⟩
theorem bytes_of (a z : List UInt8) (h : a.length = 16) : ((a ++ [0, 0] ++ z).take 16 = a) ∧ ((a ++ [0, 0] ++ z).drop 18 = z) ∧ (((a ++ [0, 0] ++ z).take 18).drop 16 = [0, 0]) := by
  have h2 : (a ++ [(0 : UInt8), 0]).length = 18 := by rw [List.length_append, h]; rfl
  refine ⟨by rw [List.append_assoc, List.take_left' h], List.drop_left' h2, by rw [List.take_left' h2, List.drop_left' h]⟩
theorem back_in (s : ByteArray) (hs : s.size ≤ 140737488355328) : weighbridgelaw05_TcpBack.j0 2 s true = some true := by
  have hb := parse_bounds (bl s)
  have hl := bl_length s
  rw [weighbridgelaw05_TcpBack.j0, tcp_Parse_eq hs, Option.bind_some, tcp_Build_eq hb.1 hb.2.1 (by rw [lb_size]; omega) (by rw [lb_size]; omega), Option.bind_some, bl_lb, bl_lb]
  by_cases he : (tcpParse (bl s)).e = 0
  · rw [if_pos he]
    by_cases h15 : (s.size : Int) > 1500
    · rw [decide_eq_true h15, weighbridgelaw05_TcpBack.j1, if_pos rfl, if_pos rfl, if_pos he]
    · obtain ⟨h20, ha⟩ := tcp_again he (by omega)
      rw [decide_eq_false h15, weighbridgelaw05_TcpBack.j1, if_neg (by decide), ha]
      obtain ⟨b1, b2, b3⟩ := bytes_of ((bl s).take 16) ((bl s).drop 18) (by rw [List.length_take]; omega)
      obtain ⟨U, hU⟩ : ∃ U, (bl s).take 16 ++ [0, 0] ++ (bl s).drop 18 = U := ⟨_, rfl⟩
      have hUl : U.length = s.size := by rw [← hU]; simp only [List.length_append, List.length_take, List.length_drop, List.length_cons, List.length_nil]; omega
      rw [hU] at b1 b2 b3 ⊢
      simp only
      have x1 : (lb U).extract 0 16 = s.extract 0 16 := bl_inj (by rw [bl_extract, bl_extract, bl_lb, b1])
      have x2 : (lb U).extract 18 (lb U).size = s.extract 18 s.size := bl_inj (by rw [bl_extract, bl_extract, bl_lb, lb_size, List.take_length, b2, ← hl, List.take_length])
      have x3 : (lb U).extract 16 18 = lb [0, 0] := bl_inj (by rw [bl_extract, bl_lb, bl_lb, b3])
      rw [if_pos trivial, if_pos (by rw [lb_size]; omega), if_pos trivial, if_pos (by decide), if_pos (by rw [lb_size]; omega), if_pos (by omega), if_pos (by rw [x1]), if_pos (by rw [lb_size]; omega), if_pos (by omega), if_pos (by rw [x2]), if_pos (by decide), x3, toL, bl_lb]
      rfl
  · obtain ⟨e, e0, hn⟩ := tcpParse_none he
    have z : (lb ([] : List UInt8)).toList = [] := by rw [toL]; rfl
    rw [if_neg he, hn, weighbridgelaw05_TcpBack.j1, if_pos rfl, if_pos rfl, if_neg (by exact e0)]
    show (if ((0 : Int) == 0 && ((0 : Int) == 0 && ((0 : Int) == 0 && ((0 : Int) == 0 && ((0 : Int) == 0 && ((0 : Int) == 0 && ((0 : Int) == 0 && ((lb []).toList == ([] : List UInt8))))))))) = true then some ((lb []).toList == ([] : List UInt8)) else some false) = some true
    rw [z]; rfl
theorem TcpBack : weighbridgelaw05_TcpBack.Pure := by
  intro a b c d e f g o y s w0 w1 w2 w3 w4 w5 w6 wo wy ws
  have b2 := wf_u32 w2
  have b3 := wf_u32 w3
  refine ⟨2, ?_⟩
  unfold weighbridgelaw05_TcpBack.f
  rw [examples_true, Option.bind_some, if_pos rfl, tcp_Build_eq b2 b3 (by omega) (by omega), Option.bind_some]
  by_cases he : (tcpBuild a b c d e f g (bl o) (bl y)).2 = 0
  · obtain ⟨R, hz⟩ := tcpBuild_ok he
    have hlen := tcpBuild_len he
    rw [if_pos he, tcp_Parse_eq (by rw [lb_size]; omega), Option.bind_some, bl_lb, tcpBuild_yes R hz]
    simp only
    rw [tcpParse_head R b2 b3, if_neg (by simp), if_pos (by simp), if_pos rfl]
    exact back_in s (by omega)
  · rw [if_neg he]
    exact back_in s (by omega)

end Go.Proofs.Ytlhpfoibohiggaa.Pure
