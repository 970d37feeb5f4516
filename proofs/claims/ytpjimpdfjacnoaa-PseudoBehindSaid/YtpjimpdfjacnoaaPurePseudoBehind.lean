/- What stands behind a datagram's length is not covered: it may be anything. -/
import Derived.Test.YtpjimpdfjacnoaaPr15
import Derived.Test.YtpjimpdfjacnoaaLem
set_option linter.unusedVariables false
set_option linter.unusedSimpArgs false
namespace Go.Proofs.Ytpjimpdfjacnoaa.Pure
open Go.RowKit Go.Proofs.Ytpjimpdfjacnoaa.Pr Go.Proofs.Ytpjimpdfjacnoaa.Sp Go.Proofs.Ytpjimpdfjacnoaa.Lem Go.Proofs.YtpjimpdfjacnoaaW.PrintWords Go.Proofs.YtpjimpdfjacnoaaW.PrintLast Go.Proofs.YtpjimpdfjacnoaaW.PrintMore

theorem examples_true : weighbridgelaw08_examples.f = some true := by kernel_rfl
theorem put2_udp0 (a b n : Int) (l : List UInt8) : put2 (udpHead a b n ++ l) 6 0 = udpHead a b n ++ l := rfl
theorem put2_append {l r : List UInt8} {k : Nat} {n : Int} (h : k + 2 ≤ l.length) : put2 (l ++ r) k n = put2 l k n ++ r := by
  unfold put2; rw [List.take_append_of_le_length (by omega), List.drop_append_of_le_length (by omega), List.append_assoc (l.take k ++ beBytes 2 n)]
theorem seg_len (a b c : Int) (l : List UInt8) : (put2 (udpHead a b (8 + (l.length : Int)) ++ l) 6 c).length = 8 + l.length := by
  rw [put2_length (by rw [List.length_append, udpHead_length]; omega), List.length_append, udpHead_length]
theorem cov_udp {a b c : Int} {l r : List UInt8} (hl : l.length ≤ 65527) : cov 17 (put2 (udpHead a b (8 + (l.length : Int)) ++ l) 6 c ++ r) = put2 (udpHead a b (8 + (l.length : Int)) ++ l) 6 c := by
  have hlen := seg_len a b c l
  have hu : udpLen (put2 (udpHead a b (8 + (l.length : Int)) ++ l) 6 c ++ r) = 8 + (l.length : Int) := by
    have e : ((put2 (udpHead a b (8 + (l.length : Int)) ++ l) 6 c ++ r).drop 4).take 2 = beBytes 2 (8 + (l.length : Int)) := rfl
    unfold udpLen; rw [e, beNum2 (by omega) (by omega)]
  have hus : udpSize (put2 (udpHead a b (8 + (l.length : Int)) ++ l) 6 c ++ r) = (8 + (l.length : Int), true) := by
    unfold udpSize
    rw [List.length_append, hlen, hu, if_neg (by omega), if_neg (by omega)]
  unfold cov
  rw [hus, if_pos ⟨rfl, rfl⟩]
  exact List.take_left' (by rw [hlen]; show _ = (8 + (l.length : Int)).toNat; omega)
theorem seg_zeroed {a b c : Int} {l r : List UInt8} (hl : l.length ≤ 65527) : zeroed 17 (put2 (udpHead a b (8 + (l.length : Int)) ++ l) 6 c ++ r) = (udpHead a b (8 + (l.length : Int)) ++ l, true) := by
  have h8 : 6 + 2 ≤ (udpHead a b (8 + (l.length : Int)) ++ l).length := by rw [List.length_append, udpHead_length]; omega
  unfold zeroed
  rw [cov_udp hl]
  refine (set_put2 (k := 6) (by rw [seg_len]; omega) (by decide) (by decide)).trans ?_
  rw [put2_put2 h8, put2_udp0]
theorem seg_check {x y a b c : Int} {l r : List UInt8} (hl : l.length ≤ 65527) : pcheck 17 x y (put2 (udpHead a b (8 + (l.length : Int)) ++ l) 6 c ++ r) = (pnum 17 x y (udpHead a b (8 + (l.length : Int)) ++ l), true) := by
  unfold pcheck; rw [seg_zeroed hl, if_pos ⟨rfl, rfl⟩]
theorem seg_fill {x y a b c : Int} {l r : List UInt8} (hx : 0 ≤ x ∧ x ≤ 4294967295) (hy : 0 ≤ y ∧ y ≤ 4294967295) (hl : l.length ≤ 65527) :
    pfill 17 x y (put2 (udpHead a b (8 + (l.length : Int)) ++ l) 6 c ++ r) = (put2 (udpHead a b (8 + (l.length : Int)) ++ l) 6 (pnum 17 x y (udpHead a b (8 + (l.length : Int)) ++ l)) ++ r, true) := by
  have hn := pnum_bounds (p := 17) (s := udpHead a b (8 + (l.length : Int)) ++ l) rfl hx hy
  have h8 : 6 + 2 ≤ (udpHead a b (8 + (l.length : Int)) ++ l).length := by rw [List.length_append, udpHead_length]; omega
  unfold pfill
  rw [seg_check hl, if_pos rfl]
  refine (set_put2 (k := 6) (by rw [List.length_append, seg_len]; omega) hn.1 hn.2).trans ?_
  rw [put2_append (by rw [seg_len]; omega), put2_put2 h8]
theorem PseudoBehind : weighbridgelaw08_PseudoBehind.Pure := by
  intro x y s m w0 w1 hs hm
  have b0 := wf_u32 w0
  have b1 := wf_u32 w1
  unfold weighbridgelaw08_PseudoBehind.f
  obtain ⟨q, hq, hq1, hq2, hq3⟩ := mn_cut s 100
  rw [examples_true, Option.bind_some, if_pos rfl, show (100 : Int) = ((100 : Nat) : Int) from rfl, hq, if_pos (by omega), if_pos (by omega)]
  obtain ⟨l, hl⟩ : ∃ l, bl (s.extract 0 ((q : Int)).toNat) = l := ⟨_, rfl⟩
  have hll : l.length = q := by rw [← hl, bl_length, hq3]
  obtain ⟨r, hr⟩ : ∃ r, bl m = r := ⟨_, rfl⟩
  have hrl : r.length = m.size := by rw [← hr, bl_length]
  have hm' : m = lb r := by rw [← hr, lb_bl]
  rw [show s.extract 0 ((q : Int)).toNat = lb l by rw [← hl, lb_bl], udp_Build_eq (by rw [lb_size]; omega), Option.bind_some, bl_lb, udpBuild_ok (by decide) (by decide) (by omega)]
  obtain ⟨S, hS⟩ : ∃ S, udpHead 7 9 (8 + (l.length : Int)) ++ l = S := ⟨_, rfl⟩
  have hSl : S.length = 8 + l.length := by rw [← hS, List.length_append, udpHead_length]
  have z0 : put2 S 6 0 = S := by rw [← hS]; exact put2_udp0 _ _ _ _
  have k1 : ∀ c r, pcheck 17 x y (put2 S 6 c ++ r) = (pnum 17 x y S, true) := fun c r => by
    have := seg_check (x := x) (y := y) (a := 7) (b := 9) (c := c) (l := l) (r := r) (by omega)
    rw [hS] at this; exact this
  have k2 : ∀ r, pfill 17 x y (S ++ r) = (put2 S 6 (pnum 17 x y S) ++ r, true) := fun r => by
    have := seg_fill (x := x) (y := y) (a := 7) (b := 9) (c := 0) (l := l) (r := r) b0 b1 (by omega)
    rw [hS, z0] at this; exact this
  have k3 := k2 []
  rw [List.append_nil, List.append_nil] at k3
  have hf := psum_filled (p := 17) (l := S) (k := 6) rfl b0 b1 (by decide) (by omega)
  rw [z0] at hf
  have hcv : cov 17 (put2 S 6 (pnum 17 x y S) ++ r) = put2 S 6 (pnum 17 x y S) := by
    have := cov_udp (a := 7) (b := 9) (c := pnum 17 x y S) (l := l) (r := r) (by omega)
    rw [hS] at this; exact this
  have v : pverify 17 x y (put2 S 6 (pnum 17 x y S) ++ r) = 0 := by
    unfold pverify
    rw [if_pos (show (place 17).2 = true from rfl), k1, if_pos rfl, hcv, if_pos (Or.inr hf)]
  have ht := put2_length (l := S) (k := 6) (n := pnum 17 x y S) (by omega)
  rw [hS, pseudo_Fill_eq (by decide) b0 b1 (by rw [lb_size]; show S.length ≤ _; omega), Option.bind_some, bl_lb, k3]
  show (if (lb S).size + m.size ≤ 9223372036854775807 then (pseudo_Fill.f 17 x y (lb S ++ m)).bind _ else none) = _
  rw [hm', if_pos (by rw [lb_size, lb_size]; omega), lb_append, pseudo_Fill_eq (by decide) b0 b1 (by rw [lb_size, List.length_append]; omega), Option.bind_some, bl_lb, k2 r, if_pos rfl, if_pos rfl, if_pos rfl]
  show (if (lb (put2 S 6 (pnum 17 x y S))).size + (lb r).size ≤ 9223372036854775807 then _ else none) = _
  rw [if_pos (by rw [lb_size, lb_size]; omega), lb_append, if_pos rfl, pseudo_Verify_eq (by decide) b0 b1 (by rw [lb_size, List.length_append]; show (put2 S 6 (pnum 17 x y S)).length + _ ≤ _; omega), Option.bind_some, bl_lb, v]
  rfl

end Go.Proofs.Ytpjimpdfjacnoaa.Pure
