/- What a datagram says of its length is what counts: fewer bytes than eight, or more than there are, are refused; fewer than there are cut it. -/
import Derived.Test.YthmpmladneiegaaPr12
import Derived.Test.YthmpmladneiegaaLem
set_option linter.unusedVariables false
set_option linter.unusedSimpArgs false
namespace Go.Proofs.Ythmpmladneiegaa.Pure
open Go.RowKit Go.Proofs.Ythmpmladneiegaa.Pr Go.Proofs.Ythmpmladneiegaa.Sp Go.Proofs.Ythmpmladneiegaa.Lem Go.Proofs.YthmpmladneiegaaW.PrintWords Go.Proofs.YthmpmladneiegaaW.PrintLast Go.Proofs.YthmpmladneiegaaW.PrintMore

theorem examples_true : weighbridgelaw06_examples.f = some true := by kernel_rfl
theorem UdpLength_j (l : List UInt8) (n : Int) (w0 : 0 ≤ n ∧ n ≤ 255) (hl : l.length ≤ 100) :
    weighbridgelaw06_UdpLength.j0 1 (lb l) n true (lb (udpHead 1 2 (8 + (l.length : Int)) ++ l)) false = some true := by
  have f1 : fits 2 1 = true := by decide
  have f2 : fits 2 2 = true := by decide
  have hsz : (lb (udpHead 1 2 (8 + (l.length : Int)) ++ l)).size = 8 + l.length := by rw [lb_size, List.length_append, udpHead_length]
  have hy : strOfNums [0, n % 256] = lb (beBytes 2 n) := by
    have : n / 256 = 0 := by omega
    show lb _ = lb _
    simp [beBytes, this]
  have e4 : (lb (udpHead 1 2 (8 + (l.length : Int)) ++ l)).extract 0 4 = lb (beBytes 2 1 ++ beBytes 2 2) := bl_inj (by rw [bl_extract, bl_lb, bl_lb]; rfl)
  have e6 : (lb (udpHead 1 2 (8 + (l.length : Int)) ++ l)).extract 6 (lb (udpHead 1 2 (8 + (l.length : Int)) ++ l)).size = lb ([0, 0] ++ l) := bl_inj (by
    rw [bl_extract, bl_lb, bl_lb, List.take_of_length_le (by rw [hsz, List.length_append, udpHead_length]; omega)]; rfl)
  have ej : beBytes 2 1 ++ beBytes 2 2 ++ beBytes 2 n ++ ([0, 0] ++ l) = udpHead 1 2 n ++ l := by unfold udpHead; rw [List.append_assoc (beBytes 2 1 ++ beBytes 2 2 ++ beBytes 2 n) [0, 0] l]
  have hs1 : (lb (udpHead 1 2 n ++ l)).size ≤ 281474976710656 := by rw [lb_size, List.length_append, udpHead_length]; omega
  simp only [weighbridgelaw06_UdpLength.j0]
  rw [if_neg (by decide), if_pos (by decide), if_pos (by rw [hsz]; omega), Option.bind_some, w64 (n := n) (by omega) (by omega), hy, e4, e6, lb_append, lb_append, ej]
  rw [if_pos (by rw [lb_size, lb_size, List.length_append, beBytes_length, beBytes_length, beBytes_length]; omega), if_pos (by rw [hsz]; omega), if_pos (by rw [lb_size, lb_size, List.length_append, List.length_append, List.length_append]; simp; omega),
    udp_Parse_eq hs1, udp_Size_eq hs1, Option.bind_some, Option.bind_some, bl_lb, udpParse_head l f1 f2 (by omega) (by omega), udpSize_head l (by omega) (by omega)]
  by_cases h : n < 8 ∨ n > 8 + (l.length : Int)
  · rw [if_pos h, if_pos h]
    by_cases h1 : n < 8
    · rw [if_pos h1, if_pos trivial]; rfl
    · rw [if_neg h1, if_pos (by rw [hsz]; omega), if_pos trivial]; rfl
  · rw [if_neg h, if_neg h, if_neg (by omega), if_neg (by rw [hsz]; omega), if_pos rfl, if_pos trivial, if_pos rfl, if_pos rfl, w64 (n := n - 8) (by omega) (by omega), if_pos (by omega), if_pos (by rw [lb_size]; omega)]
    have : (lb l).extract 0 (n - 8).toNat = lb (l.take (n - 8).toNat) := bl_inj (by rw [bl_extract, bl_lb, bl_lb]; rfl)
    rw [this, beq_self_eq_true]
theorem UdpLength : weighbridgelaw06_UdpLength.Pure := by
  intro s n hs w1
  have b1 := wf_u8 w1
  refine ⟨1, ?_⟩
  unfold weighbridgelaw06_UdpLength.f
  obtain ⟨p, hp, hp1, hp2, hp3⟩ := mn_cut s 100
  rw [examples_true, Option.bind_some, if_pos rfl, show (100 : Int) = ((100 : Nat) : Int) from rfl, hp, if_pos (by omega), if_pos (by omega)]
  obtain ⟨l, hl⟩ : ∃ l, bl (s.extract 0 ((p : Int)).toNat) = l := ⟨_, rfl⟩
  have hll : l.length = p := by rw [← hl, bl_length, hp3]
  rw [show s.extract 0 ((p : Int)).toNat = lb l by rw [← hl, lb_bl], udp_Build_eq (by rw [lb_size]; omega), Option.bind_some, bl_lb, udpBuild_ok (by decide) (by decide) (by omega), if_pos rfl, lb_size, lb_size, List.length_append, udpHead_length, w64 (by omega) (by omega)]
  have : (((8 + l.length : Nat) : Int) != 8 + (l.length : Int)) = false := by rw [bne_eq_false_iff_eq]; omega
  rw [this]
  exact UdpLength_j l n b1 (by omega)

end Go.Proofs.Ythmpmladneiegaa.Pure
