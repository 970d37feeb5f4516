/- What is filled is verified, also with both ends turned; it differs in its check alone; with one bit of the covered part turned it is not (UDP, a body of at most 300 bytes, a bit of it). -/
import Derived.Test.YtpjimpdfjacnoaaPr15
import Derived.Test.YtpjimpdfjacnoaaLem
set_option linter.unusedVariables false
set_option linter.unusedSimpArgs false
namespace Go.Proofs.Ytpjimpdfjacnoaa.Pure
open Go.RowKit Go.Proofs.Ytpjimpdfjacnoaa.Pr Go.Proofs.Ytpjimpdfjacnoaa.Sp Go.Proofs.Ytpjimpdfjacnoaa.Lem Go.Proofs.YtpjimpdfjacnoaaW.PrintWords Go.Proofs.YtpjimpdfjacnoaaW.PrintLast Go.Proofs.YtpjimpdfjacnoaaW.PrintMore

theorem examples_true : weighbridgelaw08_examples.f = some true := by kernel_rfl
theorem put2_udp0 (a b n : Int) (l : List UInt8) : put2 (udpHead a b n ++ l) 6 0 = udpHead a b n ++ l := rfl
theorem put2_append {l r : List UInt8} {k : Nat} {n : Int} (h : k + 2 ≤ l.length) : put2 (l ++ r) k n = put2 l k n ++ r := by
  unfold put2; rw [List.take_append_of_le_length (by omega), List.drop_append_of_le_length (by omega), List.append_assoc (l.take k ++ beBytes 2 n)]
theorem seg_len (a b c : Int) (l : List UInt8) : (put2 (udpHead a b (8 + (l.length : Int)) ++ l) 6 c).length = 8 + l.length := by
  rw [put2_length (by rw [List.length_append, udpHead_length]; omega), List.length_append, udpHead_length]
theorem cov_udp {a b c : Int} {l r : List UInt8} (hl : l.length ≤ 65527) : cov 17 (put2 (udpHead a b (8 + (l.length : Int)) ++ l) 6 c ++ r) = put2 (udpHead a b (8 + (l.length : Int)) ++ l) 6 c := by
  have hlen := seg_len a b c l
  have hu : udpLen (put2 (udpHead a b (8 + (l.length : Int)) ++ l) 6 c ++ r) = 8 + (l.length : Int) := by
    have e : ((put2 (udpHead a b (8 + (l.length : Int)) ++ l) 6 c ++ r).drop 4).take 2 = beBytes 2 (8 + (l.length : Int)) := rfl
    unfold udpLen; rw [e, beNum2 (by omega) (by omega)]
  have hus : udpSize (put2 (udpHead a b (8 + (l.length : Int)) ++ l) 6 c ++ r) = (8 + (l.length : Int), true) := by
    unfold udpSize
    rw [List.length_append, hlen, hu, if_neg (by omega), if_neg (by omega)]
  unfold cov
  rw [hus, if_pos ⟨rfl, rfl⟩]
  exact List.take_left' (by rw [hlen]; show _ = (8 + (l.length : Int)).toNat; omega)
theorem seg_zeroed {a b c : Int} {l r : List UInt8} (hl : l.length ≤ 65527) : zeroed 17 (put2 (udpHead a b (8 + (l.length : Int)) ++ l) 6 c ++ r) = (udpHead a b (8 + (l.length : Int)) ++ l, true) := by
  have h8 : 6 + 2 ≤ (udpHead a b (8 + (l.length : Int)) ++ l).length := by rw [List.length_append, udpHead_length]; omega
  unfold zeroed
  rw [cov_udp hl]
  refine (set_put2 (k := 6) (by rw [seg_len]; omega) (by decide) (by decide)).trans ?_
  rw [put2_put2 h8, put2_udp0]
theorem seg_check {x y a b c : Int} {l r : List UInt8} (hl : l.length ≤ 65527) : pcheck 17 x y (put2 (udpHead a b (8 + (l.length : Int)) ++ l) 6 c ++ r) = (pnum 17 x y (udpHead a b (8 + (l.length : Int)) ++ l), true) := by
  unfold pcheck; rw [seg_zeroed hl, if_pos ⟨rfl, rfl⟩]
theorem seg_fill {x y a b c : Int} {l r : List UInt8} (hx : 0 ≤ x ∧ x ≤ 4294967295) (hy : 0 ≤ y ∧ y ≤ 4294967295) (hl : l.length ≤ 65527) :
    pfill 17 x y (put2 (udpHead a b (8 + (l.length : Int)) ++ l) 6 c ++ r) = (put2 (udpHead a b (8 + (l.length : Int)) ++ l) 6 (pnum 17 x y (udpHead a b (8 + (l.length : Int)) ++ l)) ++ r, true) := by
  have hn := pnum_bounds (p := 17) (s := udpHead a b (8 + (l.length : Int)) ++ l) rfl hx hy
  have h8 : 6 + 2 ≤ (udpHead a b (8 + (l.length : Int)) ++ l).length := by rw [List.length_append, udpHead_length]; omega
  unfold pfill
  rw [seg_check hl, if_pos rfl]
  refine (set_put2 (k := 6) (by rw [List.length_append, seg_len]; omega) hn.1 hn.2).trans ?_
  rw [put2_append (by rw [seg_len]; omega), put2_put2 h8]
theorem hsum_comm (p a b n : Int) : hsum p a b n = hsum p b a n := by unfold hsum; omega
theorem psum_comm (p a b : Int) (s : List UInt8) : psum p a b s = psum p b a s := by unfold psum; rw [hsum_comm]
theorem pnum_comm (p a b : Int) (s : List UInt8) : pnum p a b s = pnum p b a s := by unfold pnum; rw [psum_comm]
/-- a filled segment's sum is another one with a byte another one -/
theorem psum_turned {p a b : Int} {l : List UInt8} {i : Nat} (h : i < l.length) {v : Int} (v0 : 0 ≤ v) (v1 : v ≤ 255) (hne : v ≠ ((l[i]'h).toNat : Int)) (hp : (place p).2 = true) (ha : 0 ≤ a ∧ a ≤ 4294967295) (hb : 0 ≤ b ∧ b ≤ 4294967295) (hs : psum p a b l = 65535) :
    psum p a b (l.set i (UInt8.ofNat v.toNat)) ≠ 65535 := by
  have hh := hsum_bounds (n := (l.length : Int)) hp ha hb
  have w0 := (wsum_bounds (wl l)).1
  have w1 := (wsum_bounds (wl (l.set i (UInt8.ofNat v.toNat)))).1
  have hx := (l[i]'h).toNat_lt
  have e := wsum_set l i h (UInt8.ofNat v.toNat)
  have ev : ((UInt8.ofNat v.toNat).toNat : Int) = v := by rw [UInt8.toNat_ofNat']; omega
  rw [ev] at e
  unfold psum fold16 at hs ⊢
  rw [List.length_set]
  by_cases hp : i % 2 = 0
  · rw [if_pos hp] at e
    split at hs <;> split <;> omega
  · rw [if_neg hp] at e
    split at hs <;> split <;> omega
theorem fills_turned {x y i : Int} {S : List UInt8} (n : Nat) (hn : 1 ≤ n ∧ n ≤ 300) (hSl : S.length = 8 + n) (hi : 0 ≤ i ∧ i ≤ 9223372036854775807) (b0 : 0 ≤ x ∧ x ≤ 4294967295) (b1 : 0 ≤ y ∧ y ≤ 4294967295)
    (hv : ∀ (k : Nat) (h : k < S.length) (v : Int), 8 ≤ k → 0 ≤ v → v ≤ 255 → v ≠ ((S[k]'h).toNat : Int) → pverify 17 x y (S.set k (UInt8.ofNat v.toNat)) = 7) :
    (if (wrap64 (8 * (wrap64 (((8 + n : Nat) : Int) - 8)))) = 0 then (none) else (if (lb S).size ≤ 281474976710656 then ((some (numsOf (lb S) : List Int)).bind fun y266 => (if 0 ≤ (wrap64 (Int.tdiv (wrap64 (64 + (Int.tmod i (wrap64 (8 * (wrap64 (((8 + n : Nat) : Int) - 8))))))) 8)) then (if (wrap64 (Int.tdiv (wrap64 (64 + (Int.tmod i (wrap64 (8 * (wrap64 (((8 + n : Nat) : Int) - 8))))))) 8)) < (y266.length : Int) then (if 0 ≤ (Int.tmod (wrap64 (64 + (Int.tmod i (wrap64 (8 * (wrap64 (((8 + n : Nat) : Int) - 8))))))) 8) then (if true = true then (if true = true then ((pseudo_Verify.f 17 x y (strOfNums (y266.set ((wrap64 (Int.tdiv (wrap64 (64 + (Int.tmod i (wrap64 (8 * (wrap64 (((8 + n : Nat) : Int) - 8))))))) 8)) : Int).toNat (Go.bits .xor .u8 (rd y266 (wrap64 (Int.tdiv (wrap64 (64 + (Int.tmod i (wrap64 (8 * (wrap64 (((8 + n : Nat) : Int) - 8))))))) 8))) (shl .u8 1 (Int.tmod (wrap64 (64 + (Int.tmod i (wrap64 (8 * (wrap64 (((8 + n : Nat) : Int) - 8))))))) 8)))))).bind fun t271 => (some (t271 == 7))) else (some false)) else (some false)) else (none)) else (none)) else (none))) else (none))) = some true := by
  have hln : ((numsOf (lb S)).length : Int) = ((8 + n : Nat) : Int) := by rw [numsOf_length, lb_size, hSl]
  have e8 : wrap64 (8 * wrap64 (((8 + n : Nat) : Int) - 8)) = 8 * (n : Int) := by
    rw [w64 (n := ((8 + n : Nat) : Int) - 8) (by omega) (by omega), w64 (by omega) (by omega)]; omega
  have m0 := Int.emod_nonneg i (b := 8 * (n : Int)) (by omega)
  have m1 := Int.emod_lt_of_pos i (b := 8 * (n : Int)) (by omega)
  obtain ⟨r, hr⟩ : ∃ r : Nat, i % (8 * (n : Int)) = (r : Int) := ⟨(i % (8 * (n : Int))).toNat, by omega⟩
  rw [e8, if_neg (by omega), if_pos (by rw [lb_size]; omega), Option.bind_some, tm _ hi.1, hr, w64 (n := 64 + (r : Int)) (by omega) (by omega), td 8 (by omega), w64 (n := (64 + (r : Int)) / 8) (by omega) (by omega), tm 8 (by omega), hln, if_pos (by omega), if_pos (by omega), if_pos (by omega), if_pos rfl, if_pos rfl]
  obtain ⟨k, hk⟩ : ∃ k : Nat, (64 + (r : Int)) / 8 = (k : Int) := ⟨((64 + (r : Int)) / 8).toNat, by omega⟩
  have hkl : k < (bl (lb S)).length := by rw [bl_lb]; omega
  rw [hk, rd_numsOf (lb S) k hkl, Int.toNat_natCast]
  have hx := ((bl (lb S))[k]'hkl).toNat_lt
  obtain ⟨v, hvv, v0, v1, hne, _, _⟩ := bit_turned (x := (((bl (lb S))[k]'hkl).toNat : Int)) (k := (64 + (r : Int)) % 8) (by omega) (by omega) (by omega) (by omega)
  have h7 : pverify 17 x y ((bl (lb S)).set k (UInt8.ofNat v.toNat)) = 7 := by
    have hk' : k < S.length := by rw [hSl]; omega
    have hne' : v ≠ ((S[k]'hk').toNat : Int) := by
      intro h; apply hne; rw [h]
      congr 2
    rw [bl_lb]; exact hv k hk' v (by omega) v0 v1 hne'
  rw [hvv, pseudo_Verify_eq (by decide) b0 b1 (by rw [strOfNums_size, List.length_set, numsOf_length, lb_size]; omega), Option.bind_some, bl_turned, h7]
  rfl
theorem PseudoFills : weighbridgelaw08_PseudoFills.Pure := by
  intro x y a b s i w0 w1 w2 w3 hs wi
  have b0 := wf_u32 w0
  have b1 := wf_u32 w1
  have b2 := wf_u16 w2
  have b3 := wf_u16 w3
  have bi := wf_i64 wi
  refine ⟨2, ?_⟩
  unfold weighbridgelaw08_PseudoFills.f
  obtain ⟨q, hq, hq1, hq2, hq3⟩ := mn_cut s 300
  rw [examples_true, Option.bind_some, if_pos rfl, show (300 : Int) = ((300 : Nat) : Int) from rfl, hq, if_pos (by omega), if_pos (by omega), w64 (n := a) (by omega) (by omega), w64 (n := b) (by omega) (by omega)]
  obtain ⟨l, hl⟩ : ∃ l, bl (s.extract 0 ((q : Int)).toNat) = l := ⟨_, rfl⟩
  have hll : l.length = q := by rw [← hl, bl_length, hq3]
  rw [show s.extract 0 ((q : Int)).toNat = lb l by rw [← hl, lb_bl], udp_Build_eq (by rw [lb_size]; omega), Option.bind_some, bl_lb, udpBuild_ok (fits2.2 b2) (fits2.2 b3) (by omega)]
  have cu : ∀ c, cov 17 (put2 (udpHead a b (8 + (l.length : Int)) ++ l) 6 c) = put2 (udpHead a b (8 + (l.length : Int)) ++ l) 6 c := fun c => by
    have := cov_udp (a := a) (b := b) (c := c) (l := l) (r := []) (by omega)
    rw [List.append_nil] at this; exact this
  have hset : ∀ (c : Int) (k : Nat) (u : UInt8), 8 ≤ k → ∃ l', l'.length = l.length ∧ (put2 (udpHead a b (8 + (l.length : Int)) ++ l) 6 c).set k u = put2 (udpHead a b (8 + (l'.length : Int)) ++ l') 6 c := fun c k u hk => by
    refine ⟨l.set (k - 8) u, List.length_set, ?_⟩
    rw [List.length_set, put2_append (by rw [udpHead_length]; omega), put2_append (by rw [udpHead_length]; omega), List.set_append_right _ _ (by rw [put2_length (by rw [udpHead_length]; omega), udpHead_length]; exact hk), put2_length (by rw [udpHead_length]; omega), udpHead_length]
  obtain ⟨S, hS⟩ : ∃ S, udpHead a b (8 + (l.length : Int)) ++ l = S := ⟨_, rfl⟩
  have hSl : S.length = 8 + l.length := by rw [← hS, List.length_append, udpHead_length]
  have z0 : put2 S 6 0 = S := by rw [← hS]; exact put2_udp0 _ _ _ _
  have k1 : ∀ x y c, pcheck 17 x y (put2 S 6 c) = (pnum 17 x y S, true) := fun x y c => by
    have := seg_check (x := x) (y := y) (a := a) (b := b) (c := c) (l := l) (r := []) (by omega)
    rw [List.append_nil, hS] at this; exact this
  have k2 : pfill 17 x y S = (put2 S 6 (pnum 17 x y S), true) := by
    have := seg_fill (x := x) (y := y) (a := a) (b := b) (c := 0) (l := l) (r := []) b0 b1 (by omega)
    rw [List.append_nil, List.append_nil, hS, z0] at this; exact this
  rw [hS] at cu
  have hn := pnum_bounds (p := 17) (s := S) rfl b0 b1
  have hn0 : pnum 17 x y S ≠ 0 := by
    have := psum_bounds (p := 17) (s := S) rfl b0 b1
    unfold pnum; split <;> omega
  have hf := psum_filled (p := 17) (l := S) (k := 6) rfl b0 b1 (by decide) (by omega)
  rw [z0] at hf
  have v1 : pverify 17 x y (put2 S 6 (pnum 17 x y S)) = 0 := by
    unfold pverify
    rw [if_pos (show (place 17).2 = true from rfl), k1, if_pos rfl, cu, if_pos (Or.inr hf)]
  have v2 : pverify 17 y x (put2 S 6 (pnum 17 x y S)) = 0 := by
    unfold pverify
    rw [if_pos (show (place 17).2 = true from rfl), k1, if_pos rfl, cu, if_pos (Or.inr (by rw [psum_comm]; exact hf))]
  have k0 := k1 x y 0
  rw [z0] at k0
  have v3 : pverify 17 x y S = 0 := by
    have g : (Sp.get S (place 17).1 2).1 = 0 := by
      show (Sp.get S ((6 : Nat) : Int) 2).1 = 0
      rw [get2 _ _ (by omega), ← hS]; rfl
    unfold pverify
    rw [if_pos (show (place 17).2 = true from rfl), k0, if_pos rfl, if_pos (Or.inl ⟨rfl, g⟩)]
  have hT : ∀ (k : Nat) (h : k < (put2 S 6 (pnum 17 x y S)).length) (v : Int), 8 ≤ k → 0 ≤ v → v ≤ 255 → v ≠ (((put2 S 6 (pnum 17 x y S))[k]'h).toNat : Int) → pverify 17 x y ((put2 S 6 (pnum 17 x y S)).set k (UInt8.ofNat v.toNat)) = 7 := fun k h v hk hv0 hv1 hne => by
    have hp := psum_turned h hv0 hv1 hne (p := 17) rfl b0 b1 hf
    obtain ⟨l', hl', he⟩ := hset (pnum 17 x y S) k (UInt8.ofNat v.toNat) hk
    rw [hS] at he
    have c1 := cov_udp (a := a) (b := b) (c := pnum 17 x y S) (l := l') (r := []) (by omega)
    have c2 := seg_check (x := x) (y := y) (a := a) (b := b) (c := pnum 17 x y S) (l := l') (r := []) (by omega)
    rw [List.append_nil, ← he] at c1 c2
    have g : (Sp.get ((put2 S 6 (pnum 17 x y S)).set k (UInt8.ofNat v.toNat)) (place 17).1 2).1 = pnum 17 x y S := by
      show (Sp.get ((put2 S 6 (pnum 17 x y S)).set k (UInt8.ofNat v.toNat)) ((6 : Nat) : Int) 2).1 = _
      rw [he, get2 _ _ (by rw [seg_len]; omega), put2_mid (by rw [List.length_append, udpHead_length]; omega), beNum2 hn.1 hn.2]
    unfold pverify
    rw [if_pos (show (place 17).2 = true from rfl), c2, if_pos rfl, c1, if_neg (by rintro (⟨_, h⟩ | h); exact hn0 (g ▸ h); exact hp h)]
  have ht := put2_length (l := S) (k := 6) (n := pnum 17 x y S) (by omega)
  have hmid := put2_mid (l := S) (k := 6) (n := pnum 17 x y S) (by omega)
  have htk := put2_take (l := S) (k := 6) (n := pnum 17 x y S) (by omega)
  have htd := put2_drop (l := S) (k := 6) (n := pnum 17 x y S) (by omega)
  rw [hS]
  show ((pseudo_Fill.f 17 x y (lb S)).bind _) = _
  rw [pseudo_Fill_eq (by decide) b0 b1 (by rw [lb_size]; omega), Option.bind_some, bl_lb, k2]
  simp only
  generalize hT0 : put2 S 6 (pnum 17 x y S) = T at *
  rw [if_pos trivial, if_pos trivial, if_pos (by rw [lb_size, lb_size, ht]), if_neg (by rw [lb_size]; omega), if_pos (by decide), if_pos (by rw [lb_size]; omega), if_pos (by rw [lb_size]; omega),
    if_pos (by rw [show (lb T).extract 0 6 = (lb S).extract 0 6 from bl_inj (by rw [bl_extract, bl_extract, bl_lb, bl_lb, htk])]), if_pos (by rw [lb_size]; omega), if_pos (by rw [lb_size]; omega)]
  have hd : (((lb T).extract 8 (lb T).size).toList != ((lb S).extract 8 (lb S).size).toList) = false := by
    rw [show (lb T).extract 8 (lb T).size = (lb S).extract 8 (lb S).size from bl_inj (by rw [bl_extract, bl_extract, bl_lb, bl_lb, lb_size, lb_size, List.take_length, List.take_length]; exact htd)]
    simp
  rw [hd, weighbridgelaw08_PseudoFills.j0, if_neg (by decide), pseudo_Verify_eq (by decide) b0 b1 (by rw [lb_size]; omega), Option.bind_some, bl_lb, v1, if_pos rfl, pseudo_Verify_eq (by decide) b1 b0 (by rw [lb_size]; omega), Option.bind_some, bl_lb, v2, if_pos rfl, if_pos (by decide), if_pos (by rw [lb_size]; omega)]
  have hz : ¬ ((lb T).extract 6 8).toList = ([0, 0] : List UInt8) := by
    intro h
    rw [toL, bl_extract, bl_lb, List.drop_take, show 8 - 6 = 2 from rfl, hmid] at h
    have e := beNum2 hn.1 hn.2
    rw [h] at e
    exact hn0 e.symm
  rw [if_neg hz, pseudo_Verify_eq (by decide) b0 b1 (by rw [lb_size]; omega), Option.bind_some, bl_lb, v3, weighbridgelaw08_PseudoFills.j1, lb_size, hSl]
  by_cases hq0 : l.length = 0
  · rw [if_pos (by omega), if_pos rfl]; rfl
  · have hTl : T.length = 8 + l.length := by rw [ht, hSl]
    rw [if_neg (by omega)]
    by_cases hi : i < 0
    · rw [if_pos hi, w64 (n := i + 1) (by omega) (by omega), w64 (n := -(i + 1)) (by omega) (by omega)]
      exact fills_turned l.length (by omega) hTl ⟨by omega, by omega⟩ b0 b1 hT
    · rw [if_neg hi]
      exact fills_turned l.length (by omega) hTl ⟨by omega, by omega⟩ b0 b1 hT

end Go.Proofs.Ytpjimpdfjacnoaa.Pure
