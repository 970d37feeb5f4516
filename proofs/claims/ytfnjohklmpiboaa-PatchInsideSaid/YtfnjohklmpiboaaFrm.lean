-- trimmed by trims.py
/- Packets made of their parts: what they are classified as. No program in sight. -/
import Derived.Test.YtfnjohklmpiboaaLem
set_option linter.unusedVariables false
set_option linter.unusedSimpArgs false
set_option linter.unusedSectionVars false
namespace Go.Proofs.Ytfnjohklmpiboaa.Frm
open Go.RowKit Go.Proofs.YtfnjohklmpiboaaW.PrintWords Go.Proofs.YtfnjohklmpiboaaW.PrintMore
open Go.Proofs.Ytfnjohklmpiboaa.Sp Go.Proofs.Ytfnjohklmpiboaa.Lem

/-! ### TCP with a check -/
def tcpC (a b c d e f g : Int) (o : List UInt8) (ck : Int) : List UInt8 := beBytes 2 a ++ beBytes 2 b ++ beBytes 4 c ++ beBytes 4 d ++ beBytes 2 (4096 * ((20 + (o.length : Int)) / 4) + e) ++ beBytes 2 f ++ beBytes 2 ck ++ beBytes 2 g
@[simp] theorem tcpC_length (a b c d e f g : Int) (o : List UInt8) (ck : Int) : (tcpC a b c d e f g o ck).length = 20 := rfl
theorem tcp_put2 (a b c d e f g : Int) (o t : List UInt8) (ck : Int) : put2 (tcpHead a b c d e f g o ++ t) 16 ck = tcpC a b c d e f g o ck ++ t := rfl
theorem tcpC_zero (a b c d e f g : Int) (o : List UInt8) : tcpC a b c d e f g o 0 = tcpHead a b c d e f g o := rfl
theorem tcpParse_C {a b c d e f g : Int} {o : List UInt8} (r : tcpRight a b e f g o = true) (hc : 0 ≤ c ∧ c ≤ 4294967295) (hd : 0 ≤ d ∧ d ≤ 4294967295) (ck : Int) (t : List UInt8) :
    tcpParse (tcpC a b c d e f g o ck ++ o ++ t) = ⟨a, b, c, d, e, f, g, o, t, 0⟩ := by
  obtain ⟨fa, fb, ff, fg, he, ho, hok⟩ := tcpRight_iff.1 r
  have hs := tcpSize_head r (c := c) (d := d) (tcpC a b c d e f g o ck ++ o ++ t) rfl
  have hl : (tcpC a b c d e f g o ck ++ o ++ t).length = 20 + o.length + t.length := by simp only [List.length_append, tcpC_length]
  have ht : (tcpC a b c d e f g o ck ++ o ++ t).take (20 + o.length) = tcpC a b c d e f g o ck ++ o := List.take_left' (by simp)
  have hd' : (tcpC a b c d e f g o ck ++ o ++ t).drop (20 + o.length) = t := List.drop_left' (by simp)
  have h20 : (tcpC a b c d e f g o ck ++ o).drop 20 = o := List.drop_left' (by simp)
  have fl : fits 2 (4096 * ((20 + (o.length : Int)) / 4) + e) = true := fits2.2 ⟨by omega, by omega⟩
  unfold tcpParse
  rw [dif_neg (by omega), hs, if_neg (by omega), ht, hd', h20, if_pos hok]
  obtain ⟨q, hq⟩ : ∃ q, tcpC a b c d e f g o ck ++ o ++ t = q := ⟨_, rfl⟩
  rw [hq] at hl ⊢
  have e0 : (q.drop 0).take 2 = beBytes 2 a := by rw [← hq]; rfl
  have e2 : (q.drop 2).take 2 = beBytes 2 b := by rw [← hq]; rfl
  have e4 : (q.drop 4).take 4 = beBytes 4 c := by rw [← hq]; rfl
  have e8 : (q.drop 8).take 4 = beBytes 4 d := by rw [← hq]; rfl
  have e12 : (q.drop 12).take 2 = beBytes 2 (4096 * ((20 + (o.length : Int)) / 4) + e) := by rw [← hq]; rfl
  have e14 : (q.drop 14).take 2 = beBytes 2 f := by rw [← hq]; rfl
  have e18 : (q.drop 18).take 2 = beBytes 2 g := by rw [← hq]; rfl
  have g0 := get2 q 0 (by omega)
  have g2 := get2 q 2 (by omega)
  have g4 := get4 q 4 (by omega)
  have g8 := get4 q 8 (by omega)
  have g12 := get2 q 12 (by omega)
  have g14 := get2 q 14 (by omega)
  have g18 := get2 q 18 (by omega)
  rw [e0, be2_of fa] at g0
  rw [e2, be2_of fb] at g2
  rw [e4, be4_of hc] at g4
  rw [e8, be4_of hd] at g8
  rw [e12, be2_of fl] at g12
  rw [e14, be2_of ff] at g14
  rw [e18, be2_of fg] at g18
  have hm : (4096 * ((20 + (o.length : Int)) / 4) + e) % 4096 = e := by omega
  rw [show get q 0 2 = _ from g0, show get q 2 2 = _ from g2, show get q 4 4 = _ from g4, show get q 8 4 = _ from g8, show get q 12 2 = _ from g12, show get q 14 2 = _ from g14, show get q 18 2 = _ from g18]
  simp only [hm]
/-! ### UDP with a check -/
def udpC (a b n ck : Int) : List UInt8 := beBytes 2 a ++ beBytes 2 b ++ beBytes 2 n ++ beBytes 2 ck
@[simp] theorem udpC_length (a b n ck : Int) : (udpC a b n ck).length = 8 := rfl
theorem udp_put2 (a b n ck : Int) (t : List UInt8) : put2 (udpHead a b n ++ t) 6 ck = udpC a b n ck ++ t := rfl
theorem udpC_zero (a b n : Int) : udpC a b n 0 = udpHead a b n := rfl
theorem udpLen_C {a b n ck : Int} (t : List UInt8) (h0 : 0 ≤ n) (h1 : n ≤ 65535) : udpLen (udpC a b n ck ++ t) = n := by
  have e : ((udpC a b n ck ++ t).drop 4).take 2 = beBytes 2 n := rfl
  unfold udpLen; rw [e, beNum2 h0 h1]
theorem udpParse_C {a b ck : Int} (t : List UInt8) (ha : fits 2 a = true) (hb : fits 2 b = true) (ht : t.length ≤ 65527) : udpParse (udpC a b (8 + (t.length : Int)) ck ++ t) = (a, b, t, 0) := by
  have hl : (udpC a b (8 + (t.length : Int)) ck ++ t).length = 8 + t.length := by rw [List.length_append, udpC_length]
  unfold udpParse
  rw [udpLen_C t (by omega) (by omega), hl, if_neg (by omega), if_neg (by omega)]
  have e1 : (udpC a b (8 + (t.length : Int)) ck ++ t).take 2 = beBytes 2 a := rfl
  have e2 : ((udpC a b (8 + (t.length : Int)) ck ++ t).drop 2).take 2 = beBytes 2 b := rfl
  have e3 : ((udpC a b (8 + (t.length : Int)) ck ++ t).take (8 + (t.length : Int)).toNat).drop 8 = t := by
    rw [List.take_of_length_le (by rw [hl]; omega)]; exact List.drop_left' (by simp)
  rw [e1, e2, e3, be2_of ha, be2_of hb]
theorem udpSize_C {a b ck : Int} (t : List UInt8) (ht : t.length ≤ 65527) : udpSize (udpC a b (8 + (t.length : Int)) ck ++ t) = (8 + (t.length : Int), true) := by
  unfold udpSize
  rw [udpLen_C t (by omega) (by omega), List.length_append, udpC_length, if_neg (by omega), if_neg (by omega)]
theorem cov_C {a b ck : Int} (t : List UInt8) (ht : t.length ≤ 65527) : cov 17 (udpC a b (8 + (t.length : Int)) ck ++ t) = udpC a b (8 + (t.length : Int)) ck ++ t := by
  unfold cov
  rw [udpSize_C t ht, if_pos ⟨rfl, rfl⟩]
  exact List.take_of_length_le (by rw [List.length_append, udpC_length]; show _ ≤ (8 + (t.length : Int)).toNat; omega)
theorem get_udpC {a b n ck : Int} (t : List UInt8) (h : 0 ≤ ck ∧ ck ≤ 65535) : get (udpC a b n ck ++ t) 6 2 = (ck, true) := by
  have e : ((udpC a b n ck ++ t).drop 6).take 2 = beBytes 2 ck := rfl
  have := get2 (udpC a b n ck ++ t) 6 (by rw [List.length_append, udpC_length]; omega)
  rw [e, be2_in h] at this; exact this
/-! ### segments filled -/
theorem pnum_ne {p a b : Int} {s : List UInt8} (hp : p = 17) (ha : 0 ≤ a ∧ a ≤ 4294967295) (hb : 0 ≤ b ∧ b ≤ 4294967295) : pnum p a b s ≠ 0 := by
  subst hp
  have := psum_bounds (p := 17) (s := s) rfl ha hb
  unfold pnum; split <;> omega
/-- any segment whose covered part is all of it -/
theorem fill_any {p x y : Int} {l : List UInt8} {k : Nat} (hp : place p = ((k : Int), true)) (hk : k % 2 = 0) (hc : ∀ c, cov p (put2 l k c) = put2 l k c) (h : k + 2 ≤ l.length) (hx : 0 ≤ x ∧ x ≤ 4294967295) (hy : 0 ≤ y ∧ y ≤ 4294967295) (c : Int) :
    pcheck p x y (put2 l k c) = (pnum p x y (put2 l k 0), true) ∧ pfill p x y (put2 l k c) = (put2 l k (pnum p x y (put2 l k 0)), true) := by
  have hz : zeroed p (put2 l k c) = (put2 l k 0, true) := by
    unfold zeroed
    rw [hc, hp]
    refine (set_put2 (by rw [put2_length h]; exact h) (by decide) (by decide)).trans ?_
    rw [put2_put2 h]
  have h1 : pcheck p x y (put2 l k c) = (pnum p x y (put2 l k 0), true) := by
    unfold pcheck; rw [hz, if_pos ⟨by rw [hp], rfl⟩]
  have hn := pnum_bounds (p := p) (s := put2 l k 0) (by rw [hp]) hx hy
  refine ⟨h1, ?_⟩
  unfold pfill
  rw [h1, if_pos rfl, hp]
  refine (set_put2 (by rw [put2_length h]; exact h) hn.1 hn.2).trans ?_
  rw [put2_put2 h]
theorem verify_any {p x y : Int} {l : List UInt8} {k : Nat} (hp : place p = ((k : Int), true)) (hk : k % 2 = 0) (hc : ∀ c, cov p (put2 l k c) = put2 l k c) (h : k + 2 ≤ l.length) (hx : 0 ≤ x ∧ x ≤ 4294967295) (hy : 0 ≤ y ∧ y ≤ 4294967295) :
    psum p x y (put2 l k (pnum p x y (put2 l k 0))) = 65535 ∧ pverify p x y (put2 l k (pnum p x y (put2 l k 0))) = 0 := by
  have hs := psum_filled (p := p) (l := l) (k := k) (by rw [hp]) hx hy hk h
  refine ⟨hs, ?_⟩
  unfold pverify
  rw [(fill_any hp hk hc h hx hy _).1, hp, if_pos rfl, if_pos rfl, hc, if_pos (Or.inr hs)]
/-- TCP's segment -/
def segT (x y a b e : Int) (t : List UInt8) : List UInt8 := tcpC a b 7 0 e 9 0 [] (pnum 6 x y (tcpHead a b 7 0 e 9 0 [] ++ t)) ++ t
def segU (x y a b : Int) (z : Bool) (t : List UInt8) : List UInt8 := udpC a b (8 + (t.length : Int)) (if z = true then 0 else pnum 17 x y (udpHead a b (8 + (t.length : Int)) ++ t)) ++ t
def segOf (p x y a b e : Int) (z : Bool) (t : List UInt8) : List UInt8 := if p = 6 then segT x y a b e t else segU x y a b z t
@[simp] theorem segT_length (x y a b e : Int) (t : List UInt8) : (segT x y a b e t).length = 20 + t.length := by unfold segT; rw [List.length_append, tcpC_length]
@[simp] theorem segU_length (x y a b : Int) (z : Bool) (t : List UInt8) : (segU x y a b z t).length = 8 + t.length := by unfold segU; rw [List.length_append, udpC_length]
theorem segOf_length (p x y a b e : Int) (z : Bool) (t : List UInt8) : (segOf p x y a b e z t).length = (if p = 6 then 20 else 8) + t.length := by
  unfold segOf; split <;> simp
theorem segT_fill {x y a b e : Int} {t : List UInt8} (hx : 0 ≤ x ∧ x ≤ 4294967295) (hy : 0 ≤ y ∧ y ≤ 4294967295) (c : Int) : pfill 6 x y (tcpC a b 7 0 e 9 0 [] c ++ t) = (segT x y a b e t, true) := by
  have h := (fill_any (p := 6) (k := 16) (l := tcpHead a b 7 0 e 9 0 [] ++ t) rfl rfl (fun c => cov_six _) (by rw [List.length_append, tcpHead_length]; omega) hx hy c).2
  rw [tcp_put2, tcp_put2, tcp_put2] at h
  exact h
theorem segT_right {a b e : Int} (ha : 0 ≤ a ∧ a ≤ 65535) (hb : 0 ≤ b ∧ b ≤ 65535) (he : 0 ≤ e ∧ e ≤ 63) : tcpRight a b e 9 0 [] = true :=
  tcpRight_iff.2 ⟨fits2.2 ha, fits2.2 hb, by decide, by decide, ⟨by omega, by omega⟩, by decide, rfl⟩
theorem segT_parse {x y a b e : Int} {t : List UInt8} (ha : 0 ≤ a ∧ a ≤ 65535) (hb : 0 ≤ b ∧ b ≤ 65535) (he : 0 ≤ e ∧ e ≤ 63) : tcpParse (segT x y a b e t) = ⟨a, b, 7, 0, e, 9, 0, [], t, 0⟩ := by
  have := tcpParse_C (c := 7) (d := 0) (segT_right ha hb he) (by decide) (by decide) (pnum 6 x y (tcpHead a b 7 0 e 9 0 [] ++ t)) t
  rw [List.append_nil] at this; exact this
theorem segT_sum {x y a b e : Int} {t : List UInt8} (hx : 0 ≤ x ∧ x ≤ 4294967295) (hy : 0 ≤ y ∧ y ≤ 4294967295) : psum 6 x y (segT x y a b e t) = 65535 ∧ pverify 6 x y (segT x y a b e t) = 0 := by
  have h := verify_any (p := 6) (k := 16) (l := tcpHead a b 7 0 e 9 0 [] ++ t) rfl rfl (fun c => cov_six _) (by rw [List.length_append, tcpHead_length]; omega) hx hy
  rw [tcp_put2, tcp_put2] at h
  exact h
theorem segU_cov {a b : Int} {t : List UInt8} (ht : t.length ≤ 65527) (c : Int) : cov 17 (put2 (udpHead a b (8 + (t.length : Int)) ++ t) 6 c) = put2 (udpHead a b (8 + (t.length : Int)) ++ t) 6 c := by
  rw [udp_put2]; exact cov_C t ht
theorem segU_fill {x y a b : Int} {t : List UInt8} (ht : t.length ≤ 65527) (hx : 0 ≤ x ∧ x ≤ 4294967295) (hy : 0 ≤ y ∧ y ≤ 4294967295) (c : Int) : pfill 17 x y (udpC a b (8 + (t.length : Int)) c ++ t) = (segU x y a b false t, true) := by
  have h := (fill_any (p := 17) (k := 6) (l := udpHead a b (8 + (t.length : Int)) ++ t) rfl rfl (segU_cov ht) (by rw [List.length_append, udpHead_length]; omega) hx hy c).2
  rw [udp_put2, udp_put2, udp_put2] at h
  exact h
theorem segU_parse {x y a b : Int} {z : Bool} {t : List UInt8} (ht : t.length ≤ 65527) (ha : 0 ≤ a ∧ a ≤ 65535) (hb : 0 ≤ b ∧ b ≤ 65535) : udpParse (segU x y a b z t) = (a, b, t, 0) :=
  udpParse_C t (fits2.2 ha) (fits2.2 hb) ht
theorem segU_sum {x y a b : Int} {t : List UInt8} (ht : t.length ≤ 65527) (hx : 0 ≤ x ∧ x ≤ 4294967295) (hy : 0 ≤ y ∧ y ≤ 4294967295) : psum 17 x y (segU x y a b false t) = 65535 ∧ pverify 17 x y (segU x y a b false t) = 0 := by
  have h := verify_any (p := 17) (k := 6) (l := udpHead a b (8 + (t.length : Int)) ++ t) rfl rfl (segU_cov ht) (by rw [List.length_append, udpHead_length]; omega) hx hy
  rw [udp_put2, udp_put2] at h
  exact h
theorem segU_check {x y a b c : Int} {t : List UInt8} (ht : t.length ≤ 65527) (hx : 0 ≤ x ∧ x ≤ 4294967295) (hy : 0 ≤ y ∧ y ≤ 4294967295) : (pcheck 17 x y (udpC a b (8 + (t.length : Int)) c ++ t)).2 = true := by
  have h := (fill_any (p := 17) (k := 6) (l := udpHead a b (8 + (t.length : Int)) ++ t) rfl rfl (segU_cov ht) (by rw [List.length_append, udpHead_length]; omega) hx hy c).1
  rw [udp_put2] at h; rw [h]
theorem segU_zero {x y a b : Int} {t : List UInt8} (ht : t.length ≤ 65527) (hx : 0 ≤ x ∧ x ≤ 4294967295) (hy : 0 ≤ y ∧ y ≤ 4294967295) : pverify 17 x y (segU x y a b true t) = 0 := by
  have h : (get (segU x y a b true t) 6 2).1 = 0 := by
    have := get_udpC (a := a) (b := b) (n := 8 + (t.length : Int)) (ck := 0) t (by decide)
    show (get (udpC a b (8 + (t.length : Int)) 0 ++ t) 6 2).1 = 0
    rw [this]
  unfold pverify
  rw [if_pos (show (place 17).2 = true from rfl), if_pos (show (pcheck 17 x y (segU x y a b true t)).2 = true from segU_check (c := 0) ht hx hy), if_pos (Or.inl ⟨rfl, h⟩)]
theorem segU_verify {x y a b : Int} {z : Bool} {t : List UInt8} (ht : t.length ≤ 65527) (hx : 0 ≤ x ∧ x ≤ 4294967295) (hy : 0 ≤ y ∧ y ≤ 4294967295) : pverify 17 x y (segU x y a b z t) = 0 := by
  cases z
  · exact (segU_sum ht hx hy).2
  · exact segU_zero ht hx hy
/-- what the law makes is such a segment -/
theorem segment_eq {p x y a b e : Int} {z : Bool} {t : List UInt8} (hp : p = 6 ∨ p = 17) (hx : 0 ≤ x ∧ x ≤ 4294967295) (hy : 0 ≤ y ∧ y ≤ 4294967295) (ha : 0 ≤ a ∧ a ≤ 65535) (hb : 0 ≤ b ∧ b ≤ 65535) (he : 0 ≤ e) :
    segment p x y a b e z t = segOf p x y a b (e % 64) z (t.take 40) := by
  have hl : (t.take 40).length ≤ 40 := by rw [List.length_take]; omega
  unfold segment segOf
  by_cases h6 : p = 6
  · subst h6
    rw [if_pos rfl, if_pos rfl, tcpBuild_yes (segT_right ha hb (by omega)) (by simp; omega), List.append_nil, ← tcpC_zero, segT_fill hx hy]
  · obtain rfl : p = 17 := by omega
    rw [if_neg h6, if_neg h6, udpBuild_ok (fits2.2 ha) (fits2.2 hb) (by omega)]
    cases z
    · rw [if_neg (by decide)]
      have := segU_fill (x := x) (y := y) (a := a) (b := b) (t := t.take 40) (by omega) hx hy 0
      rw [udpC_zero] at this
      rw [this]
    · rw [if_pos rfl]; rfl
/-- what a segment says of itself -/
theorem segOf_ends {p x y a b e : Int} {z : Bool} {t : List UInt8} (hp : p = 6 ∨ p = 17) (ht : t.length ≤ 65527) (ha : 0 ≤ a ∧ a ≤ 65535) (hb : 0 ≤ b ∧ b ≤ 65535) (he : 0 ≤ e ∧ e ≤ 63) : endsOf p (segOf p x y a b e z t) = (a, b, if p = 6 then e else 0, 0) := by
  unfold endsOf segOf
  by_cases h6 : p = 6
  · rw [if_pos h6, if_pos h6, if_pos h6, segT_parse ha hb he]
  · rw [if_neg h6, if_neg h6, if_neg h6, segU_parse ht ha hb]
theorem segOf_verify {p x y a b e : Int} {z : Bool} {t : List UInt8} (hp : p = 6 ∨ p = 17) (ht : t.length ≤ 65527) (hx : 0 ≤ x ∧ x ≤ 4294967295) (hy : 0 ≤ y ∧ y ≤ 4294967295) : pverify p x y (segOf p x y a b e z t) = 0 := by
  unfold segOf
  by_cases h6 : p = 6
  · subst h6; rw [if_pos rfl]; exact (segT_sum hx hy).2
  · obtain rfl : p = 17 := by omega
    rw [if_neg h6]; exact segU_verify ht hx hy
/-! ### packets -/
def ipF (id ttl p x y : Int) (s : List UInt8) : List UInt8 := ip4Full 0 id 0 0 ttl p x y [] (20 + (s.length : Int)) ++ s
@[simp] theorem ipF_length (id ttl p x y : Int) (s : List UInt8) : (ipF id ttl p x y s).length = 20 + s.length := by unfold ipF; rw [List.length_append, ip4Full_length]; simp
theorem ip_right {id ttl p : Int} (hi : 0 ≤ id ∧ id ≤ 65535) (ht : 0 ≤ ttl ∧ ttl ≤ 255) (hp : 0 ≤ p ∧ p ≤ 255) : ip4Right 0 id 0 0 ttl p [] = true :=
  ip4Right_iff.2 ⟨by decide, hi, by decide, by decide, ht, hp, by decide, rfl⟩
theorem ip4Build_F {id ttl p x y : Int} {s : List UInt8} (hi : 0 ≤ id ∧ id ≤ 65535) (ht : 0 ≤ ttl ∧ ttl ≤ 255) (hp : 0 ≤ p ∧ p ≤ 255) (hs : s.length ≤ 1480) : ip4Build 0 id 0 0 ttl p x y [] s = (ipF id ttl p x y s, 0) := by
  rw [ip4Build_yes (ip_right hi ht hp) (by simp; omega)]
  unfold ipF
  simp
theorem ip_z : (20 + (([] : List UInt8).length : Int)) = 20 := rfl
theorem ipF_parse {id ttl p x y : Int} {s : List UInt8} (hi : 0 ≤ id ∧ id ≤ 65535) (ht : 0 ≤ ttl ∧ ttl ≤ 255) (hp : 0 ≤ p ∧ p ≤ 255) (hx : 0 ≤ x ∧ x ≤ 4294967295) (hy : 0 ≤ y ∧ y ≤ 4294967295) (hs : s.length ≤ 1480) (more : List UInt8) :
    ip4Parse (ipF id ttl p x y s ++ more) = ⟨0, id, 0, 0, ttl, p, x, y, [], s, 0⟩ := by
  have := ip4Parse_full (s := s) (ip_right hi ht hp) hx hy (by rw [ip_z]; omega) more
  rw [ip_z] at this
  exact this
theorem ipF_len {id ttl p x y : Int} {s : List UInt8} (more : List UInt8) : ip4Len (ipF id ttl p x y s ++ more) = 20 := by
  have := (ip4Len_head (t := 0) (i := id) (f := 0) (g := 0) (l := ttl) (p := p) (a := x) (b := y) (o := []) (by decide) (20 + (s.length : Int)) (check (ip4Head 0 id 0 0 ttl p x y [] (20 + (s.length : Int)) 0)) (s ++ more)).1
  rw [ip_z] at this
  unfold ipF ip4Full
  rw [List.append_assoc]; exact this
theorem ipF_tot {id ttl p x y : Int} {s : List UInt8} (hs : s.length ≤ 1480) (more : List UInt8) : ip4Tot (ipF id ttl p x y s ++ more) = 20 + (s.length : Int) := by
  have := ip4Tot_head (t := 0) (i := id) (f := 0) (g := 0) (l := ttl) (p := p) (a := x) (b := y) (o := []) (20 + (s.length : Int)) (check (ip4Head 0 id 0 0 ttl p x y [] (20 + (s.length : Int)) 0)) (by omega) (s ++ more)
  unfold ipF ip4Full
  rw [List.append_assoc]; exact this
/-- a packet of TCP or UDP -/
theorem pkt_plain {ttl p x y a b e : Int} {z : Bool} {t : List UInt8} (hp : p = 6 ∨ p = 17) (ht : t.length ≤ 1400) (hl : 0 ≤ ttl ∧ ttl ≤ 255) (hx : 0 ≤ x ∧ x ≤ 4294967295) (hy : 0 ≤ y ∧ y ≤ 4294967295) (ha : 0 ≤ a ∧ a ≤ 65535) (hb : 0 ≤ b ∧ b ≤ 65535) (he : 0 ≤ e ∧ e ≤ 63) (more : List UInt8) :
    pkt (ipF 5 ttl p x y (segOf p x y a b e z t) ++ more) = ⟨1, 20, 20 + ((segOf p x y a b e z t).length : Int), p, x, y, a, b, if p = 6 then e else 0, ttl, x, y, 0, 0, 0⟩ := by
  have hsl : (segOf p x y a b e z t).length ≤ 1480 := by rw [segOf_length]; split <;> omega
  unfold pkt
  rw [ipF_parse (by decide) hl (by omega) hx hy hsl more, ipF_len, ipF_tot hsl]
  unfold pktOf
  rw [if_pos rfl, if_pos ⟨rfl, rfl⟩]
  simp only
  rw [if_neg (by omega), if_pos hp]
  unfold pktPlain plainErr
  simp only
  rw [segOf_ends hp (by omega) ha hb he]
  simp only
  rw [if_pos trivial, segOf_verify hp (by omega) hx hy, if_pos rfl]
/-! ### messages about packets -/
theorem icmpBuild_yes {c : Int} {q : List UInt8} (hc : 0 ≤ c ∧ c ≤ 255) (hq : q.length ≤ 1492) : icmpBuild 3 c 1400 q = ((icmpBytes 3 c 1400 q (check (icmpBytes 3 c 1400 q 0).1)).1, 0) := by
  unfold icmpBuild; rw [if_pos ⟨by decide, fits1.2 hc⟩, if_neg (by omega)]
def msg (c : Int) (q : List UInt8) (ck : Int) : List UInt8 := beBytes 1 3 ++ beBytes 1 c ++ beBytes 2 ck ++ beBytes 4 1400 ++ q
@[simp] theorem msg_length (c : Int) (q : List UInt8) (ck : Int) : (msg c q ck).length = 8 + q.length := by unfold msg; simp only [List.length_append, beBytes_length]
def msgF (c : Int) (q : List UInt8) : List UInt8 := msg c q (check (msg c q 0))
@[simp] theorem msgF_length (c : Int) (q : List UInt8) : (msgF c q).length = 8 + q.length := msg_length _ _ _
theorem icmpBuild_F {c : Int} {q : List UInt8} (hc : 0 ≤ c ∧ c ≤ 255) (hq : q.length ≤ 1492) : icmpBuild 3 c 1400 q = (msgF c q, 0) := by
  rw [icmpBuild_yes hc hq]
  have e : ∀ ck, (icmpBytes 3 c 1400 q ck).1 = msg c q ck := fun ck => by rw [icmpBytes_yes ⟨by decide, fits1.2 hc⟩]; rfl
  rw [e, e]; rfl
theorem msgF_sum (c : Int) (q : List UInt8) : sum (msgF c q) = 65535 := sum_checked (L := msg c q 0) (k := 2) (by decide) (by rw [msg_length]; omega) rfl
theorem msgF_parse {c : Int} {q : List UInt8} (hc : 0 ≤ c ∧ c ≤ 255) : icmpParse (msgF c q) = ⟨3, c, 1400, q, 0⟩ := by
  unfold icmpParse
  rw [msgF_length, if_neg (by omega), msgF_sum, if_pos rfl]
  have e0 : byteAt (msgF c q) 0 = 3 := rfl
  have e1 : byteAt (msgF c q) 1 = ((UInt8.ofNat (c % 256).toNat).toNat : Int) := rfl
  have e4 : ((msgF c q).drop 4).take 4 = beBytes 4 1400 := rfl
  have g4 := get4 (msgF c q) 4 (by rw [msgF_length]; omega)
  rw [e4, be4_of (by decide)] at g4
  have e8 : (msgF c q).drop 8 = q := rfl
  rw [e0, e1, e8, show get (msgF c q) 4 4 = _ from g4, ofNat_mod, show c % 256 = c by omega]
/-- what is quoted of a packet: its header, its ports, and more -/
def quo (ttl p x y T ck a b : Int) (r : List UInt8) : List UInt8 := ip4Head 0 5 0 0 ttl p x y [] T ck ++ (beBytes 2 a ++ beBytes 2 b ++ r)
theorem quo_length (ttl p x y T ck a b : Int) (r : List UInt8) : (quo ttl p x y T ck a b r).length = 24 + r.length := by
  unfold quo; simp only [List.length_append, ip4Head_length, beBytes_length, List.length_nil]; omega
theorem quo_len {ttl p x y T ck a b : Int} {r : List UInt8} : ip4Len (quo ttl p x y T ck a b r) = 20 := (ip4Len_head (t := 0) (i := 5) (f := 0) (g := 0) (l := ttl) (p := p) (a := x) (b := y) (o := []) (by decide) T ck (beBytes 2 a ++ beBytes 2 b ++ r)).1
theorem quo_gets {ttl p x y T ck a b : Int} {r : List UInt8} (hp : 0 ≤ p ∧ p ≤ 255) (hx : 0 ≤ x ∧ x ≤ 4294967295) (hy : 0 ≤ y ∧ y ≤ 4294967295) (ha : 0 ≤ a ∧ a ≤ 65535) (hb : 0 ≤ b ∧ b ≤ 65535) :
    byteAt (quo ttl p x y T ck a b r) 9 = p ∧ (get (quo ttl p x y T ck a b r) 6 2).1 = 0 ∧ (get (quo ttl p x y T ck a b r) 12 4).1 = x ∧ (get (quo ttl p x y T ck a b r) 16 4).1 = y ∧ (get (quo ttl p x y T ck a b r) 20 2).1 = a ∧ (get (quo ttl p x y T ck a b r) 22 2).1 = b := by
  have hl := quo_length ttl p x y T ck a b r
  have e9 : byteAt (quo ttl p x y T ck a b r) 9 = ((UInt8.ofNat (p % 256).toNat).toNat : Int) := rfl
  have e6 : ((quo ttl p x y T ck a b r).drop 6).take 2 = beBytes 2 0 := rfl
  have e12 : ((quo ttl p x y T ck a b r).drop 12).take 4 = beBytes 4 x := rfl
  have e16 : ((quo ttl p x y T ck a b r).drop 16).take 4 = beBytes 4 y := rfl
  have e20 : ((quo ttl p x y T ck a b r).drop 20).take 2 = beBytes 2 a := rfl
  have e22 : ((quo ttl p x y T ck a b r).drop 22).take 2 = beBytes 2 b := rfl
  have g6 := get2 (quo ttl p x y T ck a b r) 6 (by omega)
  have g12 := get4 (quo ttl p x y T ck a b r) 12 (by omega)
  have g16 := get4 (quo ttl p x y T ck a b r) 16 (by omega)
  have g20 := get2 (quo ttl p x y T ck a b r) 20 (by omega)
  have g22 := get2 (quo ttl p x y T ck a b r) 22 (by omega)
  rw [e6, be2_in (by decide)] at g6
  rw [e12, be4_of hx] at g12
  rw [e16, be4_of hy] at g16
  rw [e20, be2_in ha] at g20
  rw [e22, be2_in hb] at g22
  refine ⟨by rw [e9, ofNat_mod]; omega, ?_, ?_, ?_, ?_, ?_⟩
  · rw [show get (quo ttl p x y T ck a b r) 6 2 = _ from g6]
  · rw [show get (quo ttl p x y T ck a b r) 12 4 = _ from g12]
  · rw [show get (quo ttl p x y T ck a b r) 16 4 = _ from g16]
  · rw [show get (quo ttl p x y T ck a b r) 20 2 = _ from g20]
  · rw [show get (quo ttl p x y T ck a b r) 22 2 = _ from g22]
theorem quo_err {ttl p x y T ck a b : Int} {r : List UInt8} (h4 : 4 ≤ r.length) (hp : p = 6 ∨ p = 17) (hx : 0 ≤ x ∧ x ≤ 4294967295) (hy : 0 ≤ y ∧ y ≤ 4294967295) (ha : 0 ≤ a ∧ a ≤ 65535) (hb : 0 ≤ b ∧ b ≤ 65535) : qErr (quo ttl p x y T ck a b r) = 0 := by
  have hl := quo_length ttl p x y T ck a b r
  have hg := quo_gets (ttl := ttl) (T := T) (ck := ck) (r := r) (p := p) (by omega) hx hy ha hb
  have h0 : ip4B0 (quo ttl p x y T ck a b r) / 16 = 4 := (ip4Len_head (t := 0) (i := 5) (f := 0) (g := 0) (l := ttl) (p := p) (a := x) (b := y) (o := []) (by decide) T ck (beBytes 2 a ++ beBytes 2 b ++ r)).2
  unfold qErr
  rw [quo_len, hg.1, hg.2.1, h0, hl, if_neg (by omega), if_neg (by decide), if_neg (by omega), if_neg (by decide), if_neg (by omega), if_neg (by omega)]
/-- a message about a packet of TCP or UDP -/
theorem pkt_about {ttl c x y p px py T ck a b : Int} {r : List UInt8} (h4 : 4 ≤ r.length) (hr : r.length ≤ 1400) (hp : p = 6 ∨ p = 17) (hl : 0 ≤ ttl ∧ ttl ≤ 255) (lt : Int) (hc : 0 ≤ c ∧ c ≤ 255) (hx : 0 ≤ x ∧ x ≤ 4294967295) (hy : 0 ≤ y ∧ y ≤ 4294967295) (hpx : 0 ≤ px ∧ px ≤ 4294967295) (hpy : 0 ≤ py ∧ py ≤ 4294967295) (ha : 0 ≤ a ∧ a ≤ 65535) (hb : 0 ≤ b ∧ b ≤ 65535) (more : List UInt8) :
    pkt (ipF 0 ttl 1 x y (msgF c (quo lt p px py T ck a b r)) ++ more) = ⟨2, 20, 28 + ((quo lt p px py T ck a b r).length : Int), p, px, py, a, b, 0, ttl, x, y, 28, 48, 0⟩ := by
  have hql := quo_length lt p px py T ck a b r
  have hsl : (msgF c (quo lt p px py T ck a b r)).length ≤ 1480 := by rw [msgF_length, hql]; omega
  have hg := quo_gets (ttl := lt) (T := T) (ck := ck) (r := r) (p := p) (by omega) hpx hpy ha hb
  unfold pkt
  rw [ipF_parse (by decide) hl (by decide) hx hy hsl more, ipF_len, ipF_tot hsl]
  unfold pktOf
  rw [if_pos rfl, if_pos ⟨rfl, rfl⟩]
  simp only
  rw [if_pos trivial]
  unfold pktAbout aboutErr
  simp only
  rw [msgF_parse hc]
  simp only
  rw [if_pos trivial, if_pos (show icmpErr 3 = true from by decide), quo_err h4 hp hpx hpy ha hb, if_pos rfl, msgF_length]
  unfold pktQuoted
  rw [quo_len, show (20 + 2 : Int) = 22 from rfl, hg.1, hg.2.2.1, hg.2.2.2.1, hg.2.2.2.2.1, hg.2.2.2.2.2]
  simp only [Pkt.mk.injEq, and_true, true_and]
  refine ⟨by omega, by decide, by decide⟩
/-- what is quoted of such a packet -/
theorem ipF_quo {ttl p x y a b e : Int} {z : Bool} {t : List UInt8} (hp : p = 6 ∨ p = 17) : ∃ r ck, (segOf p x y a b e z t) = beBytes 2 a ++ beBytes 2 b ++ r ∧ r.length + 4 = (segOf p x y a b e z t).length ∧ ipF 5 ttl p x y (segOf p x y a b e z t) = quo ttl p x y (20 + ((segOf p x y a b e z t).length : Int)) ck a b r := by
  have h : ∃ r, (segOf p x y a b e z t) = beBytes 2 a ++ beBytes 2 b ++ r := by
    unfold segOf
    by_cases h6 : p = 6
    · rw [if_pos h6]
      exact ⟨(segT x y a b e t).drop 4, rfl⟩
    · rw [if_neg h6]
      exact ⟨(segU x y a b z t).drop 4, rfl⟩
  obtain ⟨r, hr⟩ := h
  refine ⟨r, check (ip4Head 0 5 0 0 ttl p x y [] (20 + ((segOf p x y a b e z t).length : Int)) 0), hr, ?_, ?_⟩
  · rw [hr]; simp only [List.length_append, beBytes_length]; omega
  · obtain ⟨L, hL⟩ : ∃ L, ((segOf p x y a b e z t).length : Int) = L := ⟨_, rfl⟩
    unfold ipF ip4Full quo
    rw [hL, hr]
theorem quo_take {ttl p x y T ck a b : Int} {r : List UInt8} {k : Nat} : (quo ttl p x y T ck a b r).take (24 + k) = quo ttl p x y T ck a b (r.take k) := by
  unfold quo
  rw [List.take_append, List.take_of_length_le (by rw [ip4Head_length]; simp; omega), ip4Head_length, List.length_nil, show 24 + k - (20 + 0) = 4 + k by omega, List.take_append, List.take_of_length_le (by simp only [List.length_append, beBytes_length]; omega), List.length_append, beBytes_length, beBytes_length, show 4 + k - (2 + 2) = k by omega]
/-! ### the laws' frames -/
theorem protoOf_or (k : Int) : protoOf k = 6 ∨ protoOf k = 17 := by unfold protoOf; split <;> simp
section
variable {k x y a b e tt u v : Int} {z : Bool} {t : List UInt8} (hx : 0 ≤ x ∧ x ≤ 4294967295) (hy : 0 ≤ y ∧ y ≤ 4294967295) (ha : 0 ≤ a ∧ a ≤ 65535) (hb : 0 ≤ b ∧ b ≤ 65535) (he : 0 ≤ e ∧ e ≤ 255) (ht : 0 ≤ tt ∧ tt ≤ 255) (hu : 0 ≤ u ∧ u ≤ 4294967295) (hv : 0 ≤ v ∧ v ≤ 4294967295)
theorem seg_le (p x y a b e : Int) (z : Bool) (t : List UInt8) : 8 ≤ (segOf p x y a b e z (t.take 40)).length ∧ (segOf p x y a b e z (t.take 40)).length ≤ 60 := by
  rw [segOf_length, List.length_take]; split <;> omega
include hx hy ha hb he ht
theorem inner_eq : inner k x y a b e tt t z = ipF 5 tt (protoOf k) x y (segOf (protoOf k) x y a b (e % 64) z (t.take 40)) := by
  have hp := protoOf_or k
  have hs := seg_le (protoOf k) x y a b (e % 64) z t
  unfold inner
  rw [segment_eq hp hx hy ha hb he.1, ip4Build_F (by decide) ht (by omega) (by omega)]
theorem frame_plain (hk : k % 4 < 2) : frame k x y a b e tt t z u v = ipF 5 tt (protoOf k) x y (segOf (protoOf k) x y a b (e % 64) z (t.take 40)) := by
  unfold frame; rw [if_pos hk, inner_eq hx hy ha hb he ht]
theorem frame_about (hk : ¬ k % 4 < 2) : ∃ ck r, 4 ≤ r.length ∧ r.length ≤ 56 ∧ frame k x y a b e tt t z u v = ipF 0 tt 1 u v (msgF (e % 6) (quo tt (protoOf k) x y (20 + ((segOf (protoOf k) x y a b (e % 64) z (t.take 40)).length : Int)) ck a b r)) := by
  have hp := protoOf_or k
  have hs := seg_le (protoOf k) x y a b (e % 64) z t
  obtain ⟨r, ck, hr, hl, hq⟩ := ipF_quo (ttl := tt) (p := protoOf k) (x := x) (y := y) (a := a) (b := b) (e := e % 64) (z := z) (t := t.take 40) hp
  have hB : ∀ q : List UInt8, q.length ≤ 100 → (ip4Build 0 0 0 0 tt 1 u v [] (icmpBuild 3 (e % 6) 1400 q).1).1 = ipF 0 tt 1 u v (msgF (e % 6) q) := fun q hq => by
    rw [icmpBuild_F (by omega) (by omega), ip4Build_F (by decide) ht (by decide) (by rw [msgF_length]; omega)]
  unfold frame about
  rw [if_neg hk, inner_eq hx hy ha hb he ht, hq]
  by_cases hz : z = true
  · refine ⟨ck, r.take 4, by rw [List.length_take]; omega, by rw [List.length_take]; omega, ?_⟩
    rw [if_pos hz, show 28 = 24 + 4 from rfl, quo_take, hB _ (by rw [quo_length, List.length_take]; omega)]
  · refine ⟨ck, r, by omega, by omega, ?_⟩
    rw [if_neg hz, hB _ (by rw [quo_length]; omega)]
theorem pkt_frame_plain (hk : k % 4 < 2) (more : List UInt8) : pkt (frame k x y a b e tt t z u v ++ more) = ⟨1, 20, ((frame k x y a b e tt t z u v).length : Int), protoOf k, x, y, a, b, if protoOf k = 6 then e % 64 else 0, tt, x, y, 0, 0, 0⟩ := by
  have hs := seg_le (protoOf k) x y a b (e % 64) z t
  rw [frame_plain hx hy ha hb he ht hk, pkt_plain (protoOf_or k) (by rw [List.length_take]; omega) ht hx hy ha hb (by omega) more, ipF_length]
  simp only [Pkt.mk.injEq, and_true, true_and]; omega
include hu hv
end
end Go.Proofs.Ytfnjohklmpiboaa.Frm
