-- trimmed by trims.py
/- Packets made of their parts: what they are classified as. No program in sight. -/
import Derived.Test.YtfnjohklmpiboaaGreatLem
set_option linter.unusedVariables false
set_option linter.unusedSimpArgs false
set_option linter.unusedSectionVars false
namespace Go.Proofs.YtfnjohklmpiboaaGreat.Frm
open Go.RowKit Go.Proofs.YtfnjohklmpiboaaGreatW.PrintWords Go.Proofs.YtfnjohklmpiboaaGreatW.PrintMore
open Go.Proofs.YtfnjohklmpiboaaGreat.Sp Go.Proofs.YtfnjohklmpiboaaGreat.Lem

/-! ### TCP with a check -/
def tcpC (a b c d e f g : Int) (o : List UInt8) (ck : Int) : List UInt8 := beBytes 2 a ++ beBytes 2 b ++ beBytes 4 c ++ beBytes 4 d ++ beBytes 2 (4096 * ((20 + (o.length : Int)) / 4) + e) ++ beBytes 2 f ++ beBytes 2 ck ++ beBytes 2 g
@[simp] theorem tcpC_length (a b c d e f g : Int) (o : List UInt8) (ck : Int) : (tcpC a b c d e f g o ck).length = 20 := rfl
theorem tcp_put2 (a b c d e f g : Int) (o t : List UInt8) (ck : Int) : put2 (tcpHead a b c d e f g o ++ t) 16 ck = tcpC a b c d e f g o ck ++ t := rfl
theorem tcpC_zero (a b c d e f g : Int) (o : List UInt8) : tcpC a b c d e f g o 0 = tcpHead a b c d e f g o := rfl
/-! ### UDP with a check -/
def udpC (a b n ck : Int) : List UInt8 := beBytes 2 a ++ beBytes 2 b ++ beBytes 2 n ++ beBytes 2 ck
@[simp] theorem udpC_length (a b n ck : Int) : (udpC a b n ck).length = 8 := rfl
theorem udp_put2 (a b n ck : Int) (t : List UInt8) : put2 (udpHead a b n ++ t) 6 ck = udpC a b n ck ++ t := rfl
theorem udpC_zero (a b n : Int) : udpC a b n 0 = udpHead a b n := rfl
theorem udpLen_C {a b n ck : Int} (t : List UInt8) (h0 : 0 ≤ n) (h1 : n ≤ 65535) : udpLen (udpC a b n ck ++ t) = n := by
  have e : ((udpC a b n ck ++ t).drop 4).take 2 = beBytes 2 n := rfl
  unfold udpLen; rw [e, beNum2 h0 h1]
theorem udpSize_C {a b ck : Int} (t : List UInt8) (ht : t.length ≤ 65527) : udpSize (udpC a b (8 + (t.length : Int)) ck ++ t) = (8 + (t.length : Int), true) := by
  unfold udpSize
  rw [udpLen_C t (by omega) (by omega), List.length_append, udpC_length, if_neg (by omega), if_neg (by omega)]
theorem cov_C {a b ck : Int} (t : List UInt8) (ht : t.length ≤ 65527) : cov 17 (udpC a b (8 + (t.length : Int)) ck ++ t) = udpC a b (8 + (t.length : Int)) ck ++ t := by
  unfold cov
  rw [udpSize_C t ht, if_pos ⟨rfl, rfl⟩]
  exact List.take_of_length_le (by rw [List.length_append, udpC_length]; show _ ≤ (8 + (t.length : Int)).toNat; omega)
/-- any segment whose covered part is all of it -/
theorem fill_any {p x y : Int} {l : List UInt8} {k : Nat} (hp : place p = ((k : Int), true)) (hk : k % 2 = 0) (hc : ∀ c, cov p (put2 l k c) = put2 l k c) (h : k + 2 ≤ l.length) (hx : 0 ≤ x ∧ x ≤ 4294967295) (hy : 0 ≤ y ∧ y ≤ 4294967295) (c : Int) :
    pcheck p x y (put2 l k c) = (pnum p x y (put2 l k 0), true) ∧ pfill p x y (put2 l k c) = (put2 l k (pnum p x y (put2 l k 0)), true) := by
  have hz : zeroed p (put2 l k c) = (put2 l k 0, true) := by
    unfold zeroed
    rw [hc, hp]
    refine (set_put2 (by rw [put2_length h]; exact h) (by decide) (by decide)).trans ?_
    rw [put2_put2 h]
  have h1 : pcheck p x y (put2 l k c) = (pnum p x y (put2 l k 0), true) := by
    unfold pcheck; rw [hz, if_pos ⟨by rw [hp], rfl⟩]
  have hn := pnum_bounds (p := p) (s := put2 l k 0) (by rw [hp]) hx hy
  refine ⟨h1, ?_⟩
  unfold pfill
  rw [h1, if_pos rfl, hp]
  refine (set_put2 (by rw [put2_length h]; exact h) hn.1 hn.2).trans ?_
  rw [put2_put2 h]
/-- TCP's segment -/
def segT (x y a b e : Int) (t : List UInt8) : List UInt8 := tcpC a b 7 0 e 9 0 [] (pnum 6 x y (tcpHead a b 7 0 e 9 0 [] ++ t)) ++ t
def segU (x y a b : Int) (z : Bool) (t : List UInt8) : List UInt8 := udpC a b (8 + (t.length : Int)) (if z = true then 0 else pnum 17 x y (udpHead a b (8 + (t.length : Int)) ++ t)) ++ t
def segOf (p x y a b e : Int) (z : Bool) (t : List UInt8) : List UInt8 := if p = 6 then segT x y a b e t else segU x y a b z t
@[simp] theorem segT_length (x y a b e : Int) (t : List UInt8) : (segT x y a b e t).length = 20 + t.length := by unfold segT; rw [List.length_append, tcpC_length]
@[simp] theorem segU_length (x y a b : Int) (z : Bool) (t : List UInt8) : (segU x y a b z t).length = 8 + t.length := by unfold segU; rw [List.length_append, udpC_length]
theorem segOf_length (p x y a b e : Int) (z : Bool) (t : List UInt8) : (segOf p x y a b e z t).length = (if p = 6 then 20 else 8) + t.length := by
  unfold segOf; split <;> simp
theorem segT_fill {x y a b e : Int} {t : List UInt8} (hx : 0 ≤ x ∧ x ≤ 4294967295) (hy : 0 ≤ y ∧ y ≤ 4294967295) (c : Int) : pfill 6 x y (tcpC a b 7 0 e 9 0 [] c ++ t) = (segT x y a b e t, true) := by
  have h := (fill_any (p := 6) (k := 16) (l := tcpHead a b 7 0 e 9 0 [] ++ t) rfl rfl (fun c => cov_six _) (by rw [List.length_append, tcpHead_length]; omega) hx hy c).2
  rw [tcp_put2, tcp_put2, tcp_put2] at h
  exact h
theorem segT_right {a b e : Int} (ha : 0 ≤ a ∧ a ≤ 65535) (hb : 0 ≤ b ∧ b ≤ 65535) (he : 0 ≤ e ∧ e ≤ 63) : tcpRight a b e 9 0 [] = true :=
  tcpRight_iff.2 ⟨fits2.2 ha, fits2.2 hb, by decide, by decide, ⟨by omega, by omega⟩, by decide, rfl⟩
theorem segU_cov {a b : Int} {t : List UInt8} (ht : t.length ≤ 65527) (c : Int) : cov 17 (put2 (udpHead a b (8 + (t.length : Int)) ++ t) 6 c) = put2 (udpHead a b (8 + (t.length : Int)) ++ t) 6 c := by
  rw [udp_put2]; exact cov_C t ht
theorem segU_fill {x y a b : Int} {t : List UInt8} (ht : t.length ≤ 65527) (hx : 0 ≤ x ∧ x ≤ 4294967295) (hy : 0 ≤ y ∧ y ≤ 4294967295) (c : Int) : pfill 17 x y (udpC a b (8 + (t.length : Int)) c ++ t) = (segU x y a b false t, true) := by
  have h := (fill_any (p := 17) (k := 6) (l := udpHead a b (8 + (t.length : Int)) ++ t) rfl rfl (segU_cov ht) (by rw [List.length_append, udpHead_length]; omega) hx hy c).2
  rw [udp_put2, udp_put2, udp_put2] at h
  exact h
/-- what the law makes is such a segment -/
theorem segment_eq {p x y a b e : Int} {z : Bool} {t : List UInt8} (hp : p = 6 ∨ p = 17) (hx : 0 ≤ x ∧ x ≤ 4294967295) (hy : 0 ≤ y ∧ y ≤ 4294967295) (ha : 0 ≤ a ∧ a ≤ 65535) (hb : 0 ≤ b ∧ b ≤ 65535) (he : 0 ≤ e) :
    segment p x y a b e z t = segOf p x y a b (e % 64) z (t.take 40) := by
  have hl : (t.take 40).length ≤ 40 := by rw [List.length_take]; omega
  unfold segment segOf
  by_cases h6 : p = 6
  · subst h6
    rw [if_pos rfl, if_pos rfl, tcpBuild_yes (segT_right ha hb (by omega)) (by simp; omega), List.append_nil, ← tcpC_zero, segT_fill hx hy]
  · obtain rfl : p = 17 := by omega
    rw [if_neg h6, if_neg h6, udpBuild_ok (fits2.2 ha) (fits2.2 hb) (by omega)]
    cases z
    · rw [if_neg (by decide)]
      have := segU_fill (x := x) (y := y) (a := a) (b := b) (t := t.take 40) (by omega) hx hy 0
      rw [udpC_zero] at this
      rw [this]
    · rw [if_pos rfl]; rfl
/-! ### packets -/
def ipF (id ttl p x y : Int) (s : List UInt8) : List UInt8 := ip4Full 0 id 0 0 ttl p x y [] (20 + (s.length : Int)) ++ s
@[simp] theorem ipF_length (id ttl p x y : Int) (s : List UInt8) : (ipF id ttl p x y s).length = 20 + s.length := by unfold ipF; rw [List.length_append, ip4Full_length]; simp
theorem ip_right {id ttl p : Int} (hi : 0 ≤ id ∧ id ≤ 65535) (ht : 0 ≤ ttl ∧ ttl ≤ 255) (hp : 0 ≤ p ∧ p ≤ 255) : ip4Right 0 id 0 0 ttl p [] = true :=
  ip4Right_iff.2 ⟨by decide, hi, by decide, by decide, ht, hp, by decide, rfl⟩
theorem ip4Build_F {id ttl p x y : Int} {s : List UInt8} (hi : 0 ≤ id ∧ id ≤ 65535) (ht : 0 ≤ ttl ∧ ttl ≤ 255) (hp : 0 ≤ p ∧ p ≤ 255) (hs : s.length ≤ 1480) : ip4Build 0 id 0 0 ttl p x y [] s = (ipF id ttl p x y s, 0) := by
  rw [ip4Build_yes (ip_right hi ht hp) (by simp; omega)]
  unfold ipF
  simp
/-! ### messages about packets -/
theorem icmpBuild_yes {c : Int} {q : List UInt8} (hc : 0 ≤ c ∧ c ≤ 255) (hq : q.length ≤ 1492) : icmpBuild 3 c 1400 q = ((icmpBytes 3 c 1400 q (check (icmpBytes 3 c 1400 q 0).1)).1, 0) := by
  unfold icmpBuild; rw [if_pos ⟨by decide, fits1.2 hc⟩, if_neg (by omega)]
def msg (c : Int) (q : List UInt8) (ck : Int) : List UInt8 := beBytes 1 3 ++ beBytes 1 c ++ beBytes 2 ck ++ beBytes 4 1400 ++ q
@[simp] theorem msg_length (c : Int) (q : List UInt8) (ck : Int) : (msg c q ck).length = 8 + q.length := by unfold msg; simp only [List.length_append, beBytes_length]
def msgF (c : Int) (q : List UInt8) : List UInt8 := msg c q (check (msg c q 0))
@[simp] theorem msgF_length (c : Int) (q : List UInt8) : (msgF c q).length = 8 + q.length := msg_length _ _ _
theorem icmpBuild_F {c : Int} {q : List UInt8} (hc : 0 ≤ c ∧ c ≤ 255) (hq : q.length ≤ 1492) : icmpBuild 3 c 1400 q = (msgF c q, 0) := by
  rw [icmpBuild_yes hc hq]
  have e : ∀ ck, (icmpBytes 3 c 1400 q ck).1 = msg c q ck := fun ck => by rw [icmpBytes_yes ⟨by decide, fits1.2 hc⟩]; rfl
  rw [e, e]; rfl
/-- what is quoted of a packet: its header, its ports, and more -/
def quo (ttl p x y T ck a b : Int) (r : List UInt8) : List UInt8 := ip4Head 0 5 0 0 ttl p x y [] T ck ++ (beBytes 2 a ++ beBytes 2 b ++ r)
theorem quo_length (ttl p x y T ck a b : Int) (r : List UInt8) : (quo ttl p x y T ck a b r).length = 24 + r.length := by
  unfold quo; simp only [List.length_append, ip4Head_length, beBytes_length, List.length_nil]; omega
/-- what is quoted of such a packet -/
theorem ipF_quo {ttl p x y a b e : Int} {z : Bool} {t : List UInt8} (hp : p = 6 ∨ p = 17) : ∃ r ck, (segOf p x y a b e z t) = beBytes 2 a ++ beBytes 2 b ++ r ∧ r.length + 4 = (segOf p x y a b e z t).length ∧ ipF 5 ttl p x y (segOf p x y a b e z t) = quo ttl p x y (20 + ((segOf p x y a b e z t).length : Int)) ck a b r := by
  have h : ∃ r, (segOf p x y a b e z t) = beBytes 2 a ++ beBytes 2 b ++ r := by
    unfold segOf
    by_cases h6 : p = 6
    · rw [if_pos h6]
      exact ⟨(segT x y a b e t).drop 4, rfl⟩
    · rw [if_neg h6]
      exact ⟨(segU x y a b z t).drop 4, rfl⟩
  obtain ⟨r, hr⟩ := h
  refine ⟨r, check (ip4Head 0 5 0 0 ttl p x y [] (20 + ((segOf p x y a b e z t).length : Int)) 0), hr, ?_, ?_⟩
  · rw [hr]; simp only [List.length_append, beBytes_length]; omega
  · obtain ⟨L, hL⟩ : ∃ L, ((segOf p x y a b e z t).length : Int) = L := ⟨_, rfl⟩
    unfold ipF ip4Full quo
    rw [hL, hr]
theorem quo_take {ttl p x y T ck a b : Int} {r : List UInt8} {k : Nat} : (quo ttl p x y T ck a b r).take (24 + k) = quo ttl p x y T ck a b (r.take k) := by
  unfold quo
  rw [List.take_append, List.take_of_length_le (by rw [ip4Head_length]; simp; omega), ip4Head_length, List.length_nil, show 24 + k - (20 + 0) = 4 + k by omega, List.take_append, List.take_of_length_le (by simp only [List.length_append, beBytes_length]; omega), List.length_append, beBytes_length, beBytes_length, show 4 + k - (2 + 2) = k by omega]
/-! ### the laws' frames -/
theorem protoOf_or (k : Int) : protoOf k = 6 ∨ protoOf k = 17 := by unfold protoOf; split <;> simp
section
variable {k x y a b e tt u v : Int} {z : Bool} {t : List UInt8} (hx : 0 ≤ x ∧ x ≤ 4294967295) (hy : 0 ≤ y ∧ y ≤ 4294967295) (ha : 0 ≤ a ∧ a ≤ 65535) (hb : 0 ≤ b ∧ b ≤ 65535) (he : 0 ≤ e ∧ e ≤ 255) (ht : 0 ≤ tt ∧ tt ≤ 255) (hu : 0 ≤ u ∧ u ≤ 4294967295) (hv : 0 ≤ v ∧ v ≤ 4294967295)
theorem seg_le (p x y a b e : Int) (z : Bool) (t : List UInt8) : 8 ≤ (segOf p x y a b e z (t.take 40)).length ∧ (segOf p x y a b e z (t.take 40)).length ≤ 60 := by
  rw [segOf_length, List.length_take]; split <;> omega
include hx hy ha hb he ht
theorem inner_eq : inner k x y a b e tt t z = ipF 5 tt (protoOf k) x y (segOf (protoOf k) x y a b (e % 64) z (t.take 40)) := by
  have hp := protoOf_or k
  have hs := seg_le (protoOf k) x y a b (e % 64) z t
  unfold inner
  rw [segment_eq hp hx hy ha hb he.1, ip4Build_F (by decide) ht (by omega) (by omega)]
theorem frame_plain (hk : k % 4 < 2) : frame k x y a b e tt t z u v = ipF 5 tt (protoOf k) x y (segOf (protoOf k) x y a b (e % 64) z (t.take 40)) := by
  unfold frame; rw [if_pos hk, inner_eq hx hy ha hb he ht]
theorem frame_about (hk : ¬ k % 4 < 2) : ∃ ck r, 4 ≤ r.length ∧ r.length ≤ 56 ∧ frame k x y a b e tt t z u v = ipF 0 tt 1 u v (msgF (e % 6) (quo tt (protoOf k) x y (20 + ((segOf (protoOf k) x y a b (e % 64) z (t.take 40)).length : Int)) ck a b r)) := by
  have hp := protoOf_or k
  have hs := seg_le (protoOf k) x y a b (e % 64) z t
  obtain ⟨r, ck, hr, hl, hq⟩ := ipF_quo (ttl := tt) (p := protoOf k) (x := x) (y := y) (a := a) (b := b) (e := e % 64) (z := z) (t := t.take 40) hp
  have hB : ∀ q : List UInt8, q.length ≤ 100 → (ip4Build 0 0 0 0 tt 1 u v [] (icmpBuild 3 (e % 6) 1400 q).1).1 = ipF 0 tt 1 u v (msgF (e % 6) q) := fun q hq => by
    rw [icmpBuild_F (by omega) (by omega), ip4Build_F (by decide) ht (by decide) (by rw [msgF_length]; omega)]
  unfold frame about
  rw [if_neg hk, inner_eq hx hy ha hb he ht, hq]
  by_cases hz : z = true
  · refine ⟨ck, r.take 4, by rw [List.length_take]; omega, by rw [List.length_take]; omega, ?_⟩
    rw [if_pos hz, show 28 = 24 + 4 from rfl, quo_take, hB _ (by rw [quo_length, List.length_take]; omega)]
  · refine ⟨ck, r, by omega, by omega, ?_⟩
    rw [if_neg hz, hB _ (by rw [quo_length]; omega)]
include hu hv
theorem frame_len : 28 ≤ (frame k x y a b e tt t z u v).length ∧ (frame k x y a b e tt t z u v).length ≤ 200 := by
  have hs := seg_le (protoOf k) x y a b (e % 64) z t
  by_cases hk : k % 4 < 2
  · rw [frame_plain hx hy ha hb he ht hk, ipF_length]; omega
  · obtain ⟨ck, r, h4, h5, hf⟩ := frame_about (u := u) (v := v) (z := z) (t := t) hx hy ha hb he ht hk
    rw [hf, ipF_length, msgF_length, quo_length]; omega
end
end Go.Proofs.YtfnjohklmpiboaaGreat.Frm
