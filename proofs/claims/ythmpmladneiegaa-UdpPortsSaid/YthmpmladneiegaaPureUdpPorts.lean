/- Ports stand first, and are read where they stand; a datagram's bytes hang on nothing else. -/
import Derived.Test.YthmpmladneiegaaPr13
import Derived.Test.YthmpmladneiegaaLem
set_option linter.unusedVariables false
set_option linter.unusedSimpArgs false
namespace Go.Proofs.Ythmpmladneiegaa.Pure
open Go.RowKit Go.Proofs.Ythmpmladneiegaa.Pr Go.Proofs.Ythmpmladneiegaa.Sp Go.Proofs.Ythmpmladneiegaa.Lem Go.Proofs.YthmpmladneiegaaW.PrintWords Go.Proofs.YthmpmladneiegaaW.PrintLast Go.Proofs.YthmpmladneiegaaW.PrintMore

theorem examples_true : weighbridgelaw06_examples.f = some true := by kernel_rfl
theorem byte_pair {n : Int} (h0 : 0 ≤ n) (h1 : n ≤ 65535) (x y : UInt8) (hx : (x.toNat : Int) = n / 256) (hy : (y.toNat : Int) = n % 256) : Go.bits .or .i64 (wrap64 (wrap64 (x.toNat : Int) * 256)) (wrap64 (y.toNat : Int)) = n := by
  rw [w64 (n := (x.toNat : Int)) (by omega) (by omega), w64 (n := (x.toNat : Int) * 256) (by omega) (by omega), w64 (n := (y.toNat : Int)) (by omega) (by omega), or64 8 (by decide) (by omega) (by omega) (by omega) (by omega) (by omega)]
  omega
theorem UdpPorts_l (a b : Int) (l m : List UInt8) (w0 : 0 ≤ a ∧ a ≤ 65535) (w1 : 0 ≤ b ∧ b ≤ 65535) :
    bt (lb (udpHead a b (8 + (l.length : Int)) ++ l)) 0 = ((UInt8.ofNat (a / 256 % 256).toNat).toNat : Int) ∧ bt (lb (udpHead a b (8 + (l.length : Int)) ++ l)) 1 = ((UInt8.ofNat (a % 256).toNat).toNat : Int) ∧
    bt (lb (udpHead a b (8 + (l.length : Int)) ++ l)) 2 = ((UInt8.ofNat (b / 256 % 256).toNat).toNat : Int) ∧ bt (lb (udpHead a b (8 + (l.length : Int)) ++ l)) 3 = ((UInt8.ofNat (b % 256).toNat).toNat : Int) := by
  have hsz : (lb (udpHead a b (8 + (l.length : Int)) ++ l)).size = 8 + l.length := by rw [lb_size, List.length_append, udpHead_length]
  refine ⟨?_, ?_, ?_, ?_⟩ <;> (rw [bt_bl _ _ (by rw [hsz]; simp; omega)]; simp only [bl_lb]; rfl)
theorem UdpPorts : weighbridgelaw06_UdpPorts.Pure := by
  intro a b s t w0 w1 hs ht
  have b0 := wf_u16 w0
  have b1 := wf_u16 w1
  have ha := fits2.2 b0
  have hb := fits2.2 b1
  unfold weighbridgelaw06_UdpPorts.f
  obtain ⟨p, hp, hp1, hp2, hp3⟩ := mn_cut s 100
  obtain ⟨q, hq, hq1, hq2, hq3⟩ := mn_cut t 100
  rw [examples_true, Option.bind_some, if_pos rfl, show (100 : Int) = ((100 : Nat) : Int) from rfl, hp, hq, if_pos (by omega), if_pos (by omega), if_pos (by omega), if_pos (by omega), w64 (n := a) (by omega) (by omega), w64 (n := b) (by omega) (by omega)]
  obtain ⟨l, hl⟩ : ∃ l, bl (s.extract 0 ((p : Int)).toNat) = l := ⟨_, rfl⟩
  obtain ⟨m, hm⟩ : ∃ m, bl (t.extract 0 ((q : Int)).toNat) = m := ⟨_, rfl⟩
  have hll : l.length = p := by rw [← hl, bl_length, hp3]
  have hml : m.length = q := by rw [← hm, bl_length, hq3]
  rw [show s.extract 0 ((p : Int)).toNat = lb l by rw [← hl, lb_bl], show t.extract 0 ((q : Int)).toNat = lb m by rw [← hm, lb_bl], udp_Build_eq (by rw [lb_size]; omega), udp_Build_eq (by rw [lb_size]; omega), Option.bind_some, Option.bind_some, bl_lb, bl_lb,
    udpBuild_ok ha hb (by omega), udpBuild_ok ha hb (by omega), if_pos rfl, if_pos rfl]
  obtain ⟨t0, t1, t2, t3⟩ := UdpPorts_l a b l m b0 b1
  have hz1 : (lb (udpHead a b (8 + (l.length : Int)) ++ l)).size = 8 + l.length := by rw [lb_size, List.length_append, udpHead_length]
  have hz2 : (lb (udpHead a b (8 + (m.length : Int)) ++ m)).size = 8 + m.length := by rw [lb_size, List.length_append, udpHead_length]
  have x4 : ∀ r : List UInt8, (lb (udpHead a b (8 + (r.length : Int)) ++ r)).extract 0 4 = lb (beBytes 2 a ++ beBytes 2 b) := fun r => bl_inj (by rw [bl_extract, bl_lb, bl_lb]; rfl)
  have x6 : ((lb (udpHead a b (8 + (l.length : Int)) ++ l)).extract 6 8).toList = [0, 0] := by rw [toL, bl_extract, bl_lb]; rfl
  have x8 : ∀ r : List UInt8, (lb (udpHead a b (8 + (r.length : Int)) ++ r)).extract 8 (lb (udpHead a b (8 + (r.length : Int)) ++ r)).size = lb r := fun r => bl_inj (by
    rw [bl_extract, bl_lb, bl_lb, lb_size, List.take_of_length_le (Nat.le_refl _)]; rfl)
  have heq : (((lb (udpHead a b (8 + (l.length : Int)) ++ l)).toList == (lb (udpHead a b (8 + (m.length : Int)) ++ m)).toList) == ((lb l).toList == (lb m).toList)) = true := by
    rw [toL, toL, toL, toL, bl_lb, bl_lb, bl_lb, bl_lb]
    by_cases h : l = m
    · rw [h]; simp
    · have h2 : udpHead a b (8 + (l.length : Int)) ++ l ≠ udpHead a b (8 + (m.length : Int)) ++ m := fun e => h (List.append_inj_right e rfl)
      rw [beq_eq_false_iff_ne.2 h, beq_eq_false_iff_ne.2 h2]; rfl
  have hi1 : ((lb (udpHead a b (8 + (l.length : Int)) ++ l)).size : Int) = 8 + (l.length : Int) := by rw [hz1]; omega
  have hi2 : ((lb (udpHead a b (8 + (m.length : Int)) ++ m)).size : Int) = 8 + (m.length : Int) := by rw [hz2]; omega
  rw [x4 l, x4 m, x8 l, x8 m, hi1, hi2, t0, t1, t2, t3]
  have c1 : ((UInt8.ofNat (a / 256 % 256).toNat).toNat : Int) = a / 256 := by rw [ofNat_mod]; omega
  have c2 : ((UInt8.ofNat (b / 256 % 256).toNat).toNat : Int) = b / 256 := by rw [ofNat_mod]; omega
  rw [if_neg (by omega), if_neg (by omega), if_pos (by decide), if_pos (by omega), if_pos (by omega), if_pos rfl, if_pos (by decide), if_pos (by omega), if_pos x6, if_pos rfl, if_pos (by omega), if_pos rfl, if_pos heq, if_pos (by omega), if_pos (by omega),
    byte_pair b0.1 b0.2 _ _ c1 (ofNat_mod _), if_pos rfl, if_pos (by omega), if_pos (by omega), byte_pair b1.1 b1.2 _ _ c2 (ofNat_mod _), beq_self_eq_true]

end Go.Proofs.Ythmpmladneiegaa.Pure
