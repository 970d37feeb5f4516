/- What is built is parsed as it was, with anything behind; cut anywhere it is refused. -/
import Derived.Test.YthmpmladneiegaaPr10
import Derived.Test.YthmpmladneiegaaLem
set_option linter.unusedVariables false
set_option linter.unusedSimpArgs false
namespace Go.Proofs.Ythmpmladneiegaa.Pure
open Go.RowKit Go.Proofs.Ythmpmladneiegaa.Pr Go.Proofs.Ythmpmladneiegaa.Sp Go.Proofs.Ythmpmladneiegaa.Lem Go.Proofs.YthmpmladneiegaaW.PrintWords Go.Proofs.YthmpmladneiegaaW.PrintLast Go.Proofs.YthmpmladneiegaaW.PrintMore

theorem examples_true : weighbridgelaw06_examples.f = some true := by kernel_rfl
theorem UdpBack_j (a b : Int) (l : List UInt8) (more : ByteArray) (cut : Int) (w0 : 0 ≤ a ∧ a ≤ 65535) (w1 : 0 ≤ b ∧ b ≤ 65535) (hl : l.length ≤ 300) (hm : more.size ≤ 140737488351232) (hc : -9223372036854775808 ≤ cut ∧ cut ≤ 9223372036854775807) :
    weighbridgelaw06_UdpBack.j0 1 a b (lb l) more cut true (lb (udpHead a b (8 + (l.length : Int)) ++ l)) false = some true := by
  have ha := fits2.2 w0
  have hb := fits2.2 w1
  have hn : ∀ r : List UInt8, ¬ (8 + (l.length : Int) < 8 ∨ 8 + (l.length : Int) > 8 + ((l ++ r).length : Int)) := fun r => by rw [List.length_append]; omega
  have hsz : (lb (udpHead a b (8 + (l.length : Int)) ++ l)).size = 8 + l.length := by rw [lb_size, List.length_append, udpHead_length]
  have hsi : ((lb (udpHead a b (8 + (l.length : Int)) ++ l)).size : Int) = 8 + (l.length : Int) := by rw [hsz]; omega
  have e1 : bl (lb (udpHead a b (8 + (l.length : Int)) ++ l) ++ more) = udpHead a b (8 + (l.length : Int)) ++ (l ++ bl more) := by rw [bl_append, bl_lb, List.append_assoc]
  have p1 : udpParse (udpHead a b (8 + (l.length : Int)) ++ (l ++ bl more)) = (a, b, l, 0) := by
    rw [udpParse_head _ ha hb (by omega) (by omega), if_neg (hn _), List.take_left' (by omega)]
  have s1 : udpSize (udpHead a b (8 + (l.length : Int)) ++ (l ++ bl more)) = (8 + (l.length : Int), true) := by
    rw [udpSize_head _ (by omega) (by omega), if_neg (hn _)]
  have key : ∀ k : Int, 0 ≤ k → k < 8 + (l.length : Int) → (udpParse (bl ((lb (udpHead a b (8 + (l.length : Int)) ++ l)).extract 0 k.toNat))).2.2.2 ≠ 0 ∧ (udpSize (bl ((lb (udpHead a b (8 + (l.length : Int)) ++ l)).extract 0 k.toNat))).2 = false := fun k h0 h1 => by
    rw [bl_extract, bl_lb, List.drop_zero]
    exact udp_cut l k.toNat ha hb rfl (by omega) (by omega)
  have fin : ∀ k : Int, 0 ≤ k → k < 8 + (l.length : Int) →
      (if 0 ≤ k then (if k ≤ ((lb (udpHead a b (8 + (l.length : Int)) ++ l)).size : Int) then ((udp_Parse.f ((lb (udpHead a b (8 + (l.length : Int)) ++ l)).extract 0 k.toNat)).bind fun bt179 => ((udp_Size.f ((lb (udpHead a b (8 + (l.length : Int)) ++ l)).extract 0 k.toNat)).bind fun bt183 => (if true = true then (if a = a then (if b = b then (if (lb l).toList = (lb l).toList then (if (0 : Int) = 0 then (if 8 + (l.length : Int) = 8 + (l.length : Int) then (if true = true then (if bt179.2.2.2 = 0 then (some false) else (some (!bt183.2))) else (some false)) else (some false)) else (some false)) else (some false)) else (some false)) else (some false)) else (some false)))) else none) else none) = some true := fun k h0 h1 => by
    obtain ⟨k1, k2⟩ := key k h0 h1
    have hs : ((lb (udpHead a b (8 + (l.length : Int)) ++ l)).extract 0 k.toNat).size ≤ 281474976710656 := by rw [ByteArray.size_extract]; omega
    rw [if_pos h0, if_pos (by omega), udp_Parse_eq hs, udp_Size_eq hs, Option.bind_some, Option.bind_some, if_pos rfl, if_pos rfl, if_pos rfl, if_pos rfl, if_pos rfl, if_pos rfl, if_pos rfl, if_neg k1, k2]
    rfl
  have hs1 : (lb (udpHead a b (8 + (l.length : Int)) ++ l) ++ more).size ≤ 281474976710656 := by rw [ByteArray.size_append]; omega
  simp only [weighbridgelaw06_UdpBack.j0]
  rw [if_neg (by decide), if_pos (by rw [hsz]; omega), udp_Parse_eq hs1, udp_Size_eq hs1, Option.bind_some, Option.bind_some, e1, p1, s1]
  have wa : wrap64 a = a := w64 (by omega) (by omega)
  have wb : wrap64 b = b := w64 (by omega) (by omega)
  rw [wa, wb]
  by_cases h : cut < 0
  · rw [if_pos h, if_neg (by omega), w64 (n := cut + 1) (by omega) (by omega), w64 (n := -(cut + 1)) (by omega) (by omega), tm _ (by omega)]
    have := fin (-(cut + 1) % ((lb (udpHead a b (8 + (l.length : Int)) ++ l)).size : Int)) (Int.emod_nonneg _ (by omega)) (by rw [hsi]; exact Int.emod_lt_of_pos _ (by omega))
    rw [hsi] at this ⊢
    exact this
  · rw [if_neg h, if_neg (by omega), tm _ (by omega)]
    have := fin (cut % ((lb (udpHead a b (8 + (l.length : Int)) ++ l)).size : Int)) (Int.emod_nonneg _ (by omega)) (by rw [hsi]; exact Int.emod_lt_of_pos _ (by omega))
    rw [hsi] at this ⊢
    exact this
theorem UdpBack : weighbridgelaw06_UdpBack.Pure := by
  intro a b s more cut w0 w1 hs hm w4
  have b0 := wf_u16 w0
  have b1 := wf_u16 w1
  have b4 := wf_i64 w4
  refine ⟨1, ?_⟩
  unfold weighbridgelaw06_UdpBack.f
  obtain ⟨p, hp, hp1, hp2, hp3⟩ := mn_cut s 300
  rw [examples_true, Option.bind_some, if_pos rfl, show (300 : Int) = ((300 : Nat) : Int) from rfl, hp, if_pos (by omega), if_pos (by omega), w64 (n := a) (by omega) (by omega), w64 (n := b) (by omega) (by omega)]
  obtain ⟨l, hl⟩ : ∃ l, bl (s.extract 0 ((p : Int)).toNat) = l := ⟨_, rfl⟩
  have hll : l.length = p := by rw [← hl, bl_length, hp3]
  rw [show s.extract 0 ((p : Int)).toNat = lb l by rw [← hl, lb_bl], udp_Build_eq (by rw [lb_size]; omega), Option.bind_some, bl_lb, udpBuild_ok (fits2.2 b0) (fits2.2 b1) (by omega), if_pos rfl, lb_size, lb_size, List.length_append, udpHead_length, w64 (by omega) (by omega)]
  have : (((8 + l.length : Nat) : Int) != 8 + (l.length : Int)) = false := by rw [bne_eq_false_iff_eq]; omega
  rw [this]
  exact UdpBack_j a b l more cut b0 b1 (by omega) hm b4

end Go.Proofs.Ythmpmladneiegaa.Pure
