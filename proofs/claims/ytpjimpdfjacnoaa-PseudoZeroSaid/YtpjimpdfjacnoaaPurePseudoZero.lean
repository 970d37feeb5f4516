/- Of UDP no check is 0: what would be 0 is 65535; a check of 0 stands for none, and is right. -/
import Derived.Test.YtpjimpdfjacnoaaPr14
import Derived.Test.YtpjimpdfjacnoaaLem
set_option linter.unusedVariables false
set_option linter.unusedSimpArgs false
namespace Go.Proofs.Ytpjimpdfjacnoaa.Pure
open Go.RowKit Go.Proofs.Ytpjimpdfjacnoaa.Pr Go.Proofs.Ytpjimpdfjacnoaa.Sp Go.Proofs.Ytpjimpdfjacnoaa.Lem Go.Proofs.YtpjimpdfjacnoaaW.PrintWords Go.Proofs.YtpjimpdfjacnoaaW.PrintLast Go.Proofs.YtpjimpdfjacnoaaW.PrintMore

theorem examples_true : weighbridgelaw08_examples.f = some true := by kernel_rfl
theorem put2_udp0 (a b n : Int) (l : List UInt8) : put2 (udpHead a b n ++ l) 6 0 = udpHead a b n ++ l := rfl
theorem put2_append {l r : List UInt8} {k : Nat} {n : Int} (h : k + 2 ≤ l.length) : put2 (l ++ r) k n = put2 l k n ++ r := by
  unfold put2; rw [List.take_append_of_le_length (by omega), List.drop_append_of_le_length (by omega), List.append_assoc (l.take k ++ beBytes 2 n)]
theorem seg_len (a b c : Int) (l : List UInt8) : (put2 (udpHead a b (8 + (l.length : Int)) ++ l) 6 c).length = 8 + l.length := by
  rw [put2_length (by rw [List.length_append, udpHead_length]; omega), List.length_append, udpHead_length]
theorem cov_udp {a b c : Int} {l r : List UInt8} (hl : l.length ≤ 65527) : cov 17 (put2 (udpHead a b (8 + (l.length : Int)) ++ l) 6 c ++ r) = put2 (udpHead a b (8 + (l.length : Int)) ++ l) 6 c := by
  have hlen := seg_len a b c l
  have hu : udpLen (put2 (udpHead a b (8 + (l.length : Int)) ++ l) 6 c ++ r) = 8 + (l.length : Int) := by
    have e : ((put2 (udpHead a b (8 + (l.length : Int)) ++ l) 6 c ++ r).drop 4).take 2 = beBytes 2 (8 + (l.length : Int)) := rfl
    unfold udpLen; rw [e, beNum2 (by omega) (by omega)]
  have hus : udpSize (put2 (udpHead a b (8 + (l.length : Int)) ++ l) 6 c ++ r) = (8 + (l.length : Int), true) := by
    unfold udpSize
    rw [List.length_append, hlen, hu, if_neg (by omega), if_neg (by omega)]
  unfold cov
  rw [hus, if_pos ⟨rfl, rfl⟩]
  exact List.take_left' (by rw [hlen]; show _ = (8 + (l.length : Int)).toNat; omega)
theorem seg_zeroed {a b c : Int} {l r : List UInt8} (hl : l.length ≤ 65527) : zeroed 17 (put2 (udpHead a b (8 + (l.length : Int)) ++ l) 6 c ++ r) = (udpHead a b (8 + (l.length : Int)) ++ l, true) := by
  have h8 : 6 + 2 ≤ (udpHead a b (8 + (l.length : Int)) ++ l).length := by rw [List.length_append, udpHead_length]; omega
  unfold zeroed
  rw [cov_udp hl]
  refine (set_put2 (k := 6) (by rw [seg_len]; omega) (by decide) (by decide)).trans ?_
  rw [put2_put2 h8, put2_udp0]
theorem seg_check {x y a b c : Int} {l r : List UInt8} (hl : l.length ≤ 65527) : pcheck 17 x y (put2 (udpHead a b (8 + (l.length : Int)) ++ l) 6 c ++ r) = (pnum 17 x y (udpHead a b (8 + (l.length : Int)) ++ l), true) := by
  unfold pcheck; rw [seg_zeroed hl, if_pos ⟨rfl, rfl⟩]
theorem seg_fill {x y a b c : Int} {l r : List UInt8} (hx : 0 ≤ x ∧ x ≤ 4294967295) (hy : 0 ≤ y ∧ y ≤ 4294967295) (hl : l.length ≤ 65527) :
    pfill 17 x y (put2 (udpHead a b (8 + (l.length : Int)) ++ l) 6 c ++ r) = (put2 (udpHead a b (8 + (l.length : Int)) ++ l) 6 (pnum 17 x y (udpHead a b (8 + (l.length : Int)) ++ l)) ++ r, true) := by
  have hn := pnum_bounds (p := 17) (s := udpHead a b (8 + (l.length : Int)) ++ l) rfl hx hy
  have h8 : 6 + 2 ≤ (udpHead a b (8 + (l.length : Int)) ++ l).length := by rw [List.length_append, udpHead_length]; omega
  unfold pfill
  rw [seg_check hl, if_pos rfl]
  refine (set_put2 (k := 6) (by rw [List.length_append, seg_len]; omega) hn.1 hn.2).trans ?_
  rw [put2_append (by rw [seg_len]; omega), put2_put2 h8]
theorem PseudoZero : weighbridgelaw08_PseudoZero.Pure := by
  intro x y a b s w0 w1 w2 w3 hs
  have b0 := wf_u32 w0
  have b1 := wf_u32 w1
  have b2 := wf_u16 w2
  have b3 := wf_u16 w3
  refine ⟨1, ?_⟩
  unfold weighbridgelaw08_PseudoZero.f
  obtain ⟨q, hq, hq1, hq2, hq3⟩ := mn_cut s 100
  rw [examples_true, Option.bind_some, if_pos rfl, show (100 : Int) = ((100 : Nat) : Int) from rfl, hq, if_pos (by omega), if_pos (by omega), w64 (n := a) (by omega) (by omega), w64 (n := b) (by omega) (by omega)]
  obtain ⟨l, hl⟩ : ∃ l, bl (s.extract 0 ((q : Int)).toNat) = l := ⟨_, rfl⟩
  have hll : l.length = q := by rw [← hl, bl_length, hq3]
  rw [show s.extract 0 ((q : Int)).toNat = lb l by rw [← hl, lb_bl], udp_Build_eq (by rw [lb_size]; omega), Option.bind_some, bl_lb, udpBuild_ok (fits2.2 b2) (fits2.2 b3) (by omega)]
  obtain ⟨S, hS⟩ : ∃ S, udpHead a b (8 + (l.length : Int)) ++ l = S := ⟨_, rfl⟩
  have hSl : S.length = 8 + l.length := by rw [← hS, List.length_append, udpHead_length]
  have z0 : put2 S 6 0 = S := by rw [← hS]; exact put2_udp0 _ _ _ _
  have k1 : ∀ c, pcheck 17 x y (put2 S 6 c) = (pnum 17 x y S, true) := fun c => by
    have := seg_check (x := x) (y := y) (a := a) (b := b) (c := c) (l := l) (r := []) (by omega)
    rw [List.append_nil, hS] at this; exact this
  have k2 : pfill 17 x y S = (put2 S 6 (pnum 17 x y S), true) := by
    have := seg_fill (x := x) (y := y) (a := a) (b := b) (c := 0) (l := l) (r := []) b0 b1 (by omega)
    rw [List.append_nil, List.append_nil, hS, z0] at this; exact this
  have k0 := k1 0
  rw [z0] at k0
  have hn := pnum_bounds (p := 17) (s := S) rfl b0 b1
  have hn0 : pnum 17 x y S ≠ 0 := by
    have := psum_bounds (p := 17) (s := S) rfl b0 b1
    unfold pnum; split <;> omega
  have v : pverify 17 x y S = 0 := by
    have g : (Sp.get S (place 17).1 2).1 = 0 := by
      show (Sp.get S ((6 : Nat) : Int) 2).1 = 0
      rw [get2 _ _ (by omega), ← hS]; rfl
    unfold pverify
    rw [if_pos (show (place 17).2 = true from rfl), k0, if_pos rfl, if_pos (Or.inl ⟨rfl, g⟩)]
  have ht := put2_length (l := S) (k := 6) (n := pnum 17 x y S) (by omega)
  have hnone : (lb (put2 S 6 (pnum 17 x y S))).extract 0 6 ++ (⟨#[0, 0]⟩ : ByteArray) ++ (lb (put2 S 6 (pnum 17 x y S))).extract 8 (lb (put2 S 6 (pnum 17 x y S))).size = lb S := bl_inj (by
    rw [bl_append, bl_append, bl_extract, bl_extract, bl_lb, bl_lb, lb_size, List.take_of_length_le (Nat.le_refl _), List.drop_zero]
    refine Eq.trans ?_ (Eq.trans (put2_put2 (l := S) (k := 6) (m := pnum 17 x y S) (n := 0) (by omega)) z0)
    rfl)
  have hw : Go.bits .or .i64 (wrap64 (wrap64 (bt (lb (put2 S 6 (pnum 17 x y S))) 6) * 256)) (wrap64 (bt (lb (put2 S 6 (pnum 17 x y S))) 7)) = pnum 17 x y S := word_bytes (l := S) (k := 6) (by omega) hn.1 hn.2
  rw [hS, pseudo_Check_eq (by decide) b0 b1 (by rw [lb_size]; show S.length ≤ _; omega), Option.bind_some, pseudo_Fill_eq (by decide) b0 b1 (by rw [lb_size]; show S.length ≤ _; omega), Option.bind_some, if_pos rfl, bl_lb, k0, k2, if_pos rfl, if_pos rfl]
  have hd : decide ((((lb (put2 S 6 (pnum 17 x y S))).size : Nat) : Int) < 8) = false := decide_eq_false (by rw [lb_size]; omega)
  show weighbridgelaw08_PseudoZero.j0 1 x y true (pnum 17 x y S) (lb (put2 S 6 (pnum 17 x y S))) (decide ((((lb (put2 S 6 (pnum 17 x y S))).size : Nat) : Int) < 8)) = some true
  rw [hd]
  generalize pnum 17 x y S = c at *
  simp only [weighbridgelaw08_PseudoZero.j0]
  have hz6 : ((lb (put2 S 6 c)).extract 0 6).size = 6 := by rw [ByteArray.size_extract, lb_size]; omega
  have hz8 : ((lb (put2 S 6 c)).extract 8 (lb (put2 S 6 c)).size).size ≤ 1000 := by rw [ByteArray.size_extract, lb_size]; omega
  have hz2 : (⟨#[0, 0]⟩ : ByteArray).size = 2 := rfl
  rw [if_neg (by decide), if_pos (by decide), if_pos (by rw [lb_size]; omega), if_pos (by omega), if_pos (by rw [lb_size]; omega), if_pos (by rw [ByteArray.size_append]; omega), pseudo_Check_eq (by decide) b0 b1 (by rw [lb_size]; omega), Option.bind_some, bl_lb, k1 c, if_pos trivial, if_neg hn0, if_pos rfl, if_pos rfl,
    hnone, pseudo_Verify_eq (by decide) b0 b1 (by rw [lb_size]; omega), Option.bind_some, bl_lb, v, if_pos rfl, if_pos (by rw [lb_size]; omega), if_pos (by rw [lb_size]; omega), hw, w64 (by omega) (by omega), beq_self_eq_true]

end Go.Proofs.Ytpjimpdfjacnoaa.Pure
