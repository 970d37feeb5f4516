/- Packets turned: what patch makes of packets that were made of their parts. No program in sight. -/
import Derived.Test.YtfnjohklmpiboaaFrm
set_option linter.unusedVariables false
set_option linter.unusedSimpArgs false
set_option linter.unusedSectionVars false
namespace Go.Proofs.Ytfnjohklmpiboaa.Trn
open Go.RowKit Go.Proofs.YtfnjohklmpiboaaW.PrintWords Go.Proofs.YtfnjohklmpiboaaW.PrintMore
open Go.Proofs.Ytfnjohklmpiboaa.Sp Go.Proofs.Ytfnjohklmpiboaa.Lem Go.Proofs.Ytfnjohklmpiboaa.Frm

def putN (l : List UInt8) (k w : Nat) (n : Int) : List UInt8 := l.take k ++ beBytes w n ++ l.drop (k + w)
theorem putN_length {l : List UInt8} {k w : Nat} {n : Int} (h : k + w ≤ l.length) : (putN l k w n).length = l.length := by
  unfold putN; simp only [List.length_append, List.length_take, List.length_drop, beBytes_length]; omega
theorem bput_N {s : List UInt8} {k w : Nat} {n : Int} (hf : fits (w : Int) n = true) (h : k + w ≤ s.length) : bput s (k : Int) (w : Int) n = putN s k w n := by
  have hh : has s (k : Int) (w : Int) = true := has_iff.2 ⟨(fits_iff.1 hf).1, (fits_iff.1 hf).2.1, by omega, by omega⟩
  unfold bput
  rw [set_yes hf hh, if_pos rfl]
  unfold putN
  rw [show ((k : Int) + (w : Int)).toNat = k + w by omega, Int.toNat_natCast, Int.toNat_natCast]
theorem fits4 {n : Int} (h : 0 ≤ n ∧ n ≤ 4294967295) : fits 4 n = true := fits_iff.2 ⟨by decide, by decide, h.1, by show n < 4294967296; omega⟩
theorem bput1 {s : List UInt8} {k : Nat} {n : Int} (hf : 0 ≤ n ∧ n ≤ 255) (h : k + 1 ≤ s.length) : bput s (k : Int) 1 n = putN s k 1 n := bput_N (w := 1) (fits1.2 hf) h
theorem bput2 {s : List UInt8} {k : Nat} {n : Int} (hf : 0 ≤ n ∧ n ≤ 65535) (h : k + 2 ≤ s.length) : bput s (k : Int) 2 n = putN s k 2 n := bput_N (w := 2) (fits2.2 hf) h
theorem bput4 {s : List UInt8} {k : Nat} {n : Int} (hf : 0 ≤ n ∧ n ≤ 4294967295) (h : k + 4 ≤ s.length) : bput s (k : Int) 4 n = putN s k 4 n := bput_N (w := 4) (fits4 hf) h

/-! ### the head -/
section
variable (i l p x y T ck n : Int) (S : List UInt8)
def hd (i l p x y T ck : Int) : List UInt8 := ip4Head 0 i 0 0 l p x y [] T ck
theorem hd_len : (hd i l p x y T ck ++ S).length = 20 + S.length := by unfold hd; rw [List.length_append, ip4Head_length]; rfl
theorem hd_ttl : putN (hd i l p x y T ck ++ S) 8 1 n = hd i n p x y T ck ++ S := rfl
theorem hd_src : putN (hd i l p x y T ck ++ S) 12 4 n = hd i l p n y T ck ++ S := rfl
theorem hd_dst : putN (hd i l p x y T ck ++ S) 16 4 n = hd i l p x n T ck ++ S := rfl
theorem hd_ck : putN (hd i l p x y T ck ++ S) 10 2 n = hd i l p x y T n ++ S := rfl
theorem hd_take : (hd i l p x y T ck ++ S).take 20 = hd i l p x y T ck := rfl
theorem hd_drop : (hd i l p x y T ck ++ S).drop 20 = S := rfl
end
theorem ipF_hd (i l p x y : Int) (S : List UInt8) : ipF i l p x y S = hd i l p x y (20 + (S.length : Int)) (check (hd i l p x y (20 + (S.length : Int)) 0)) ++ S := rfl
theorem hd_get {i l p x y T ck : Int} (S : List UInt8) (h : 0 ≤ l ∧ l ≤ 255) : (get (hd i l p x y T ck ++ S) 8 1).1 = l := by
  rw [get_yes (has_iff.2 ⟨by decide, by decide, by decide, by rw [hd_len]; omega⟩)]
  exact be1_of h
theorem turnEnds_hd {i l p x y T ck u v : Int} (S : List UInt8) (h : 1 ≤ l ∧ l ≤ 255) (hu : 0 ≤ u ∧ u ≤ 4294967295) (hv : 0 ≤ v ∧ v ≤ 4294967295) : turnEnds (hd i l p x y T ck ++ S) u v = hd i (l - 1) p u v T ck ++ S := by
  unfold turnEnds
  rw [hd_get S ⟨by omega, h.2⟩]
  rw [show bput (hd i l p x y T ck ++ S) 8 1 (l - 1) = _ from bput1 (k := 8) ⟨by omega, by omega⟩ (by rw [hd_len]; omega), hd_ttl]
  rw [show bput (hd i (l - 1) p x y T ck ++ S) 12 4 u = _ from bput4 (k := 12) hu (by rw [hd_len]; omega), hd_src]
  rw [show bput (hd i (l - 1) p u y T ck ++ S) 16 4 v = _ from bput4 (k := 16) hv (by rw [hd_len]; omega), hd_dst]
theorem recheck_hd {i l p x y T ck : Int} (S : List UInt8) : recheck (hd i l p x y T ck ++ S) 10 0 20 = hd i l p x y T (check (hd i l p x y T 0)) ++ S := by
  unfold recheck
  rw [show bput (hd i l p x y T ck ++ S) 10 2 0 = _ from bput2 (k := 10) (by decide) (by rw [hd_len]; omega), hd_ck]
  rw [show (20 : Int).toNat = 20 from rfl, show (0 : Int).toNat = 0 from rfl, hd_take, List.drop_zero]
  rw [show bput (hd i l p x y T 0 ++ S) 10 2 _ = _ from bput2 (k := 10) (check_bounds _) (by rw [hd_len]; omega), hd_ck]
theorem outer_F {i l p x y u v : Int} {S : List UInt8} (h : 1 ≤ l ∧ l ≤ 255) (hu : 0 ≤ u ∧ u ≤ 4294967295) (hv : 0 ≤ v ∧ v ≤ 4294967295) : outer (ipF i l p x y S) 20 u v = ipF i (l - 1) p u v S := by
  unfold outer
  rw [ipF_hd, turnEnds_hd S h hu hv, recheck_hd, ← ipF_hd]
/-! ### a packet turned -/
section
variable {x y a b e u v sp dp : Int} {z : Bool} {t : List UInt8} (hu : 0 ≤ u ∧ u ≤ 4294967295) (hv : 0 ≤ v ∧ v ≤ 4294967295) (hsp : 0 ≤ sp ∧ sp ≤ 65535) (hdp : 0 ≤ dp ∧ dp ≤ 65535)
theorem portsT (i l p x y T ck a b c d e f g k n : Int) (o r : List UInt8) : putN (hd i l p x y T ck ++ (tcpC a b c d e f g o k ++ r)) 20 2 n = hd i l p x y T ck ++ (tcpC n b c d e f g o k ++ r) := rfl
theorem portsT2 (i l p x y T ck a b c d e f g k n : Int) (o r : List UInt8) : putN (hd i l p x y T ck ++ (tcpC a b c d e f g o k ++ r)) 22 2 n = hd i l p x y T ck ++ (tcpC a n c d e f g o k ++ r) := rfl
theorem portsU (i l p x y T ck a b m k n : Int) (r : List UInt8) : putN (hd i l p x y T ck ++ (udpC a b m k ++ r)) 20 2 n = hd i l p x y T ck ++ (udpC n b m k ++ r) := rfl
theorem portsU2 (i l p x y T ck a b m k n : Int) (r : List UInt8) : putN (hd i l p x y T ck ++ (udpC a b m k ++ r)) 22 2 n = hd i l p x y T ck ++ (udpC a n m k ++ r) := rfl
include hsp hdp
theorem put_portsT (i l p x y T ck a b c d e f g k : Int) (o r : List UInt8) : bput (bput (hd i l p x y T ck ++ (tcpC a b c d e f g o k ++ r)) 20 2 sp) (20 + 2) 2 dp = hd i l p x y T ck ++ (tcpC sp dp c d e f g o k ++ r) := by
  rw [show bput (hd i l p x y T ck ++ (tcpC a b c d e f g o k ++ r)) 20 2 sp = _ from bput2 (k := 20) hsp (by rw [hd_len, List.length_append, tcpC_length]; omega), portsT]
  rw [show bput (hd i l p x y T ck ++ (tcpC sp b c d e f g o k ++ r)) (20 + 2) 2 dp = _ from bput2 (k := 22) hdp (by rw [hd_len, List.length_append, tcpC_length]; omega), portsT2]
theorem put_portsU (i l p x y T ck a b m k : Int) (r : List UInt8) : bput (bput (hd i l p x y T ck ++ (udpC a b m k ++ r)) 20 2 sp) (20 + 2) 2 dp = hd i l p x y T ck ++ (udpC sp dp m k ++ r) := by
  rw [show bput (hd i l p x y T ck ++ (udpC a b m k ++ r)) 20 2 sp = _ from bput2 (k := 20) hsp (by rw [hd_len, List.length_append, udpC_length]; omega), portsU]
  rw [show bput (hd i l p x y T ck ++ (udpC sp b m k ++ r)) (20 + 2) 2 dp = _ from bput2 (k := 22) hdp (by rw [hd_len, List.length_append, udpC_length]; omega), portsU2]
include hu hv
theorem filledT (i l T ck k : Int) (r : List UInt8) : fillPlain (hd i l 6 u v T ck ++ (tcpC sp dp 7 0 e 9 0 [] k ++ r)) 20 6 u v = hd i l 6 u v T ck ++ segT u v sp dp e r := by
  unfold fillPlain
  rw [if_neg (fun h => absurd h.1 (by decide)), show (20 : Int).toNat = 20 from rfl, hd_take, hd_drop, segT_fill hu hv]
theorem filledU (i l T ck k : Int) (r : List UInt8) (hr : r.length ≤ 65527) (hk : 0 ≤ k ∧ k ≤ 65535) : fillPlain (hd i l 17 u v T ck ++ (udpC sp dp (8 + (r.length : Int)) k ++ r)) 20 17 u v = hd i l 17 u v T ck ++ segU u v sp dp (decide (k = 0)) r := by
  unfold fillPlain
  have hg : (get (hd i l 17 u v T ck ++ (udpC sp dp (8 + (r.length : Int)) k ++ r)) (20 + (place 17).1) 2).1 = k := by
    rw [get_yes (has_iff.2 ⟨by decide, by decide, by decide, by rw [hd_len, List.length_append, udpC_length]; show (20 : Int) + 6 + 2 ≤ _; omega⟩)]
    exact be2_in hk
  rw [hg]
  by_cases h : k = 0
  · rw [if_pos ⟨rfl, h⟩, decide_eq_true h, h]; rfl
  · rw [if_neg (fun q => h q.2), show (20 : Int).toNat = 20 from rfl, hd_take, hd_drop, segU_fill hr hu hv, decide_eq_false h]
end
theorem turnPlain_F {l p x y a b e u v sp dp : Int} {z : Bool} {t : List UInt8} (hp : p = 6 ∨ p = 17) (ht : t.length ≤ 1400) (h : 1 ≤ l ∧ l ≤ 255) (hx : 0 ≤ x ∧ x ≤ 4294967295) (hy : 0 ≤ y ∧ y ≤ 4294967295) (hu : 0 ≤ u ∧ u ≤ 4294967295) (hv : 0 ≤ v ∧ v ≤ 4294967295) (hsp : 0 ≤ sp ∧ sp ≤ 65535) (hdp : 0 ≤ dp ∧ dp ≤ 65535) (more : List UInt8) :
    fillPlain (turnPlain (ipF 5 l p x y (segOf p x y a b e z t) ++ more) 20 (20 + ((segOf p x y a b e z t).length : Int)) p u v sp dp) 20 p u v = ipF 5 (l - 1) p u v (segOf p u v sp dp e z t) := by
  unfold turnPlain
  rw [List.take_left' (by rw [ipF_length]; omega), outer_F h hu hv]
  have hL : (segOf p u v sp dp e z t).length = (segOf p x y a b e z t).length := by rw [segOf_length, segOf_length]
  rw [ipF_hd, ipF_hd, hL]
  generalize 20 + ((segOf p x y a b e z t).length : Int) = T
  generalize check (hd 5 (l - 1) p u v T 0) = ck
  clear hL
  unfold segOf
  by_cases h6 : p = 6
  · subst h6
    rw [if_pos rfl, if_pos rfl]
    unfold segT
    rw [put_portsT hsp hdp, filledT hu hv hsp hdp]
    rfl
  · obtain rfl : p = 17 := by omega
    rw [if_neg h6, if_neg h6]
    unfold segU
    cases z
    · have hn := pnum_bounds (p := 17) (s := udpHead a b (8 + (t.length : Int)) ++ t) rfl hx hy
      have hn0 := pnum_ne (p := 17) (s := udpHead a b (8 + (t.length : Int)) ++ t) rfl hx hy
      rw [if_neg (by decide), put_portsU hsp hdp, filledU hu hv hsp hdp _ _ _ _ _ t (by omega) hn, decide_eq_false hn0]
      rfl
    · rw [if_pos rfl, put_portsU hsp hdp, filledU hu hv hsp hdp _ _ _ _ _ t (by omega) (by decide), decide_eq_true rfl]
      rfl
theorem ready_of {s : List UInt8} {k sp dp : Int} (he : (pkt s).e = 0) (hk : (pkt s).kind = k) (hsp : 0 ≤ sp ∧ sp ≤ 65535) (hdp : 0 ≤ dp ∧ dp ≤ 65535) : ready s k sp dp = if (pkt s).ttl < 2 then 11 else 0 := by
  unfold ready; rw [if_pos he, if_pos ⟨hk, fits2.2 hsp, fits2.2 hdp⟩]
theorem ready_not {s : List UInt8} {k sp dp : Int} (he : (pkt s).e = 0) (hk : ¬ ((pkt s).kind = k ∧ fits 2 sp = true ∧ fits 2 dp = true)) : ready s k sp dp = 1 := by
  unfold ready; rw [if_pos he, if_neg hk]
/-! ### the laws' frames -/
section
variable {k x y a b e tt f g u v sp dp : Int} {z : Bool} {t : List UInt8} (hx : 0 ≤ x ∧ x ≤ 4294967295) (hy : 0 ≤ y ∧ y ≤ 4294967295) (ha : 0 ≤ a ∧ a ≤ 65535) (hb : 0 ≤ b ∧ b ≤ 65535) (he : 0 ≤ e ∧ e ≤ 255) (ht : 2 ≤ tt ∧ tt ≤ 255) (hu : 0 ≤ u ∧ u ≤ 4294967295) (hv : 0 ≤ v ∧ v ≤ 4294967295) (hsp : 0 ≤ sp ∧ sp ≤ 65535) (hdp : 0 ≤ dp ∧ dp ≤ 65535)
include hx hy ha hb he ht hu hv hsp hdp
theorem patchPlain_frame (hk : k % 4 < 2) (more : List UInt8) : patchPlain (frame k x y a b e tt t z f g ++ more) u v sp dp = (frame k u v sp dp e (tt - 1) t z f g, 0) := by
  have ht' : 0 ≤ tt ∧ tt ≤ 255 := ⟨by omega, ht.2⟩
  have hp := pkt_frame_plain (z := z) (t := t) (u := f) (v := g) hx hy ha hb he ht' hk more
  have hl : ((frame k x y a b e tt t z f g).length : Int) = 20 + ((segOf (protoOf k) x y a b (e % 64) z (t.take 40)).length : Int) := by
    rw [frame_plain hx hy ha hb he ht' hk, ipF_length]; omega
  have hr : ready (frame k x y a b e tt t z f g ++ more) 1 sp dp = 0 := by
    rw [ready_of (by rw [hp]) (by rw [hp]) hsp hdp, hp]
    exact if_neg (by show ¬ tt < 2; omega)
  unfold patchPlain
  rw [hr, if_pos rfl, hp]
  simp only
  rw [hl, frame_plain hx hy ha hb he ht' hk, turnPlain_F (protoOf_or k) (by rw [List.length_take]; omega) ⟨by omega, ht.2⟩ hx hy hu hv hsp hdp more, frame_plain hu hv hsp hdp he ⟨by omega, by omega⟩ hk]
end
/-! ### what is the same -/
theorem putN_step {l : List UInt8} {k w j m : Nat} {n : Int} (hl : l.length = m) (h : k + w ≤ m) (hj : j < k ∨ k + w ≤ j) : (putN l k w n).length = m ∧ (putN l k w n)[j]? = l[j]? := by
  subst hl
  refine ⟨putN_length h, ?_⟩
  unfold putN
  rw [List.append_assoc]
  rcases hj with hj | hj
  · rw [List.getElem?_append_left (by rw [List.length_take]; omega), List.getElem?_take_of_lt hj]
  · have h1 : (l.take k).length = k := by rw [List.length_take]; omega
    have h2 : (l.take k).length ≤ j := by omega
    have h3 : (beBytes w n).length ≤ j - (l.take k).length := by rw [beBytes_length]; omega
    rw [List.getElem?_append_right h2, List.getElem?_append_right h3, List.getElem?_drop, h1, beBytes_length]
    congr 1; omega
theorem ckT (i l p x y T ck a b c d e f g k n : Int) (o r : List UInt8) : putN (hd i l p x y T ck ++ (tcpC a b c d e f g o k ++ r)) 36 2 n = hd i l p x y T ck ++ (tcpC a b c d e f g o n ++ r) := rfl
theorem ckU (i l p x y T ck a b m k n : Int) (r : List UInt8) : putN (hd i l p x y T ck ++ (udpC a b m k ++ r)) 26 2 n = hd i l p x y T ck ++ (udpC a b m n ++ r) := rfl
theorem same_T {l x y T ck a b m l' u v ck' sp dp m' e : Int} {t : List UInt8} {j : Nat} (h8 : j ≠ 8) (h10 : ¬ (10 ≤ j ∧ j < 24)) (h36 : j ≠ 36) (h37 : j ≠ 37) :
    (hd 5 l' 6 u v T ck' ++ (tcpC sp dp 7 0 e 9 0 [] m' ++ t))[j]? = (hd 5 l 6 x y T ck ++ (tcpC a b 7 0 e 9 0 [] m ++ t))[j]? := by
  have hL : (hd 5 l 6 x y T ck ++ (tcpC a b 7 0 e 9 0 [] m ++ t)).length = 40 + t.length := by rw [hd_len, List.length_append, tcpC_length]; omega
  have E : hd 5 l' 6 u v T ck' ++ (tcpC sp dp 7 0 e 9 0 [] m' ++ t) = putN (putN (putN (putN (putN (putN (putN (hd 5 l 6 x y T ck ++ (tcpC a b 7 0 e 9 0 [] m ++ t)) 8 1 l') 12 4 u) 16 4 v) 10 2 ck') 20 2 sp) 22 2 dp) 36 2 m' := by
    rw [hd_ttl, hd_src, hd_dst, hd_ck, portsT, portsT2, ckT]
  have s1 := putN_step (k := 8) (w := 1) (n := l') hL (by omega) (show j < 8 ∨ 8 + 1 ≤ j by omega)
  have s2 := putN_step (k := 12) (w := 4) (n := u) s1.1 (by omega) (show j < 12 ∨ 12 + 4 ≤ j by omega)
  have s3 := putN_step (k := 16) (w := 4) (n := v) s2.1 (by omega) (show j < 16 ∨ 16 + 4 ≤ j by omega)
  have s4 := putN_step (k := 10) (w := 2) (n := ck') s3.1 (by omega) (show j < 10 ∨ 10 + 2 ≤ j by omega)
  have s5 := putN_step (k := 20) (w := 2) (n := sp) s4.1 (by omega) (show j < 20 ∨ 20 + 2 ≤ j by omega)
  have s6 := putN_step (k := 22) (w := 2) (n := dp) s5.1 (by omega) (show j < 22 ∨ 22 + 2 ≤ j by omega)
  have s7 := putN_step (k := 36) (w := 2) (n := m') s6.1 (by omega) (show j < 36 ∨ 36 + 2 ≤ j by omega)
  rw [E, s7.2, s6.2, s5.2, s4.2, s3.2, s2.2, s1.2]
theorem same_U {l x y T ck a b m l' u v ck' sp dp m' n : Int} {t : List UInt8} {j : Nat} (h8 : j ≠ 8) (h10 : ¬ (10 ≤ j ∧ j < 24)) (h26 : j ≠ 26) (h27 : j ≠ 27) :
    (hd 5 l' 17 u v T ck' ++ (udpC sp dp n m' ++ t))[j]? = (hd 5 l 17 x y T ck ++ (udpC a b n m ++ t))[j]? := by
  have hL : (hd 5 l 17 x y T ck ++ (udpC a b n m ++ t)).length = 28 + t.length := by rw [hd_len, List.length_append, udpC_length]; omega
  have E : hd 5 l' 17 u v T ck' ++ (udpC sp dp n m' ++ t) = putN (putN (putN (putN (putN (putN (putN (hd 5 l 17 x y T ck ++ (udpC a b n m ++ t)) 8 1 l') 12 4 u) 16 4 v) 10 2 ck') 20 2 sp) 22 2 dp) 26 2 m' := by
    rw [hd_ttl, hd_src, hd_dst, hd_ck, portsU, portsU2, ckU]
  have s1 := putN_step (k := 8) (w := 1) (n := l') hL (by omega) (show j < 8 ∨ 8 + 1 ≤ j by omega)
  have s2 := putN_step (k := 12) (w := 4) (n := u) s1.1 (by omega) (show j < 12 ∨ 12 + 4 ≤ j by omega)
  have s3 := putN_step (k := 16) (w := 4) (n := v) s2.1 (by omega) (show j < 16 ∨ 16 + 4 ≤ j by omega)
  have s4 := putN_step (k := 10) (w := 2) (n := ck') s3.1 (by omega) (show j < 10 ∨ 10 + 2 ≤ j by omega)
  have s5 := putN_step (k := 20) (w := 2) (n := sp) s4.1 (by omega) (show j < 20 ∨ 20 + 2 ≤ j by omega)
  have s6 := putN_step (k := 22) (w := 2) (n := dp) s5.1 (by omega) (show j < 22 ∨ 22 + 2 ≤ j by omega)
  have s7 := putN_step (k := 26) (w := 2) (n := m') s6.1 (by omega) (show j < 26 ∨ 26 + 2 ≤ j by omega)
  rw [E, s7.2, s6.2, s5.2, s4.2, s3.2, s2.2, s1.2]
/-- two packets of other ends, and another life: just these are others, and the checks -/
theorem same_F {l l' p x y a b e u v sp dp : Int} {z : Bool} {t : List UInt8} (hp : p = 6 ∨ p = 17) {j : Nat} (h8 : j ≠ 8) (h10 : ¬ (10 ≤ j ∧ j < 24)) (hat : j ≠ (if p = 6 then 36 else 26)) (hat1 : j ≠ (if p = 6 then 36 else 26) + 1) :
    (ipF 5 l' p u v (segOf p u v sp dp e z t))[j]? = (ipF 5 l p x y (segOf p x y a b e z t))[j]? := by
  have hL : (segOf p u v sp dp e z t).length = (segOf p x y a b e z t).length := by rw [segOf_length, segOf_length]
  rw [ipF_hd, ipF_hd, hL]
  generalize 20 + ((segOf p x y a b e z t).length : Int) = T
  clear hL
  unfold segOf
  by_cases h6 : p = 6
  · subst h6
    rw [if_pos rfl] at hat hat1
    rw [if_pos rfl, if_pos rfl]
    exact same_T h8 h10 hat hat1
  · obtain rfl : p = 17 := by omega
    rw [if_neg h6] at hat hat1
    rw [if_neg h6, if_neg h6]
    exact same_U h8 h10 hat hat1
theorem ttl_F {l p x y : Int} {S : List UInt8} : (ipF 5 l p x y S)[8]? = some (UInt8.ofNat (l % 256).toNat) := rfl
theorem check_U {l x y a b u v T ck : Int} {z : Bool} {t : List UInt8} (hx : 0 ≤ x ∧ x ≤ 4294967295) (hy : 0 ≤ y ∧ y ≤ 4294967295) : ((((ipF 5 l 17 x y (segOf 17 x y a b u z t)).take 28).drop 26) == ([0, 0] : List UInt8)) = z := by
  have h : ((ipF 5 l 17 x y (segOf 17 x y a b u z t)).take 28).drop 26 = beBytes 2 (if z = true then 0 else pnum 17 x y (udpHead a b (8 + (t.length : Int)) ++ t)) := rfl
  rw [h]
  cases z
  · have hn := pnum_bounds (p := 17) (s := udpHead a b (8 + (t.length : Int)) ++ t) rfl hx hy
    have hn0 := pnum_ne (p := 17) (s := udpHead a b (8 + (t.length : Int)) ++ t) rfl hx hy
    rw [if_neg (by decide)]
    generalize pnum 17 x y (udpHead a b (8 + (t.length : Int)) ++ t) = n at *
    rw [beq_eq_false_iff_ne]
    intro hq
    have := be2_in hn
    rw [hq] at this
    exact hn0 (this.symm.trans rfl)
  · rfl
section
variable {k x y a b e tt f g : Int} {z : Bool} {t : List UInt8} (hx : 0 ≤ x ∧ x ≤ 4294967295) (hy : 0 ≤ y ∧ y ≤ 4294967295) (ha : 0 ≤ a ∧ a ≤ 65535) (hb : 0 ≤ b ∧ b ≤ 65535) (he : 0 ≤ e ∧ e ≤ 255) (ht : 0 ≤ tt ∧ tt ≤ 255)
include hx hy ha hb he ht
theorem frame_plain_len (hk : k % 4 < 2) : (frame k x y a b e tt t z f g).length = 20 + ((if protoOf k = 6 then 20 else 8) + (t.take 40).length) := by
  rw [frame_plain hx hy ha hb he ht hk, ipF_length, segOf_length]
end
/-! ### what is refused, and what stands behind -/
theorem patchPlain_2 (s : List UInt8) (u v sp dp : Int) : (patchPlain s u v sp dp).2 = ready s 1 sp dp := by
  unfold patchPlain; split
  case isTrue h => exact h.symm
  case isFalse => rfl
theorem patchAbout_2 (s : List UInt8) (x y u v sp dp : Int) : (patchAbout s x y u v sp dp).2 = ready s 2 sp dp := by
  unfold patchAbout; split
  case isTrue h => exact h.symm
  case isFalse => rfl
theorem ready_eq {s t : List UInt8} (h : pkt s = pkt t) (k sp dp : Int) : ready s k sp dp = ready t k sp dp := by unfold ready; rw [h]
theorem patchPlain_more {s more : List UInt8} (h : pkt (s ++ more) = pkt s) (ht : (pkt s).total = s.length) (u v sp dp : Int) : patchPlain (s ++ more) u v sp dp = patchPlain s u v sp dp := by
  unfold patchPlain turnPlain
  rw [ready_eq h, h, ht, Int.toNat_natCast, List.take_left' rfl, List.take_length]
theorem patchAbout_more {s more : List UInt8} (h : pkt (s ++ more) = pkt s) (ht : (pkt s).total = s.length) (x y u v sp dp : Int) : patchAbout (s ++ more) x y u v sp dp = patchAbout s x y u v sp dp := by
  unfold patchAbout turnAbout
  rw [ready_eq h, h, ht, Int.toNat_natCast, List.take_left' rfl, List.take_length]
/-! ### messages turned -/
theorem putN_right (x r : List UInt8) (j w : Nat) (n : Int) : putN (x ++ r) (x.length + j) w n = x ++ putN r j w n := by
  unfold putN
  rw [List.take_append, List.take_of_length_le (by omega), show x.length + j - x.length = j by omega, Nat.add_assoc, List.drop_append, List.drop_of_length_le (by omega), show x.length + (j + w) - x.length = j + w by omega]
  simp only [List.append_assoc, List.nil_append]
section
variable (l x y TT CK c k lt p px py T ck a b n : Int) (r : List UInt8)
def abt (l x y TT CK c k lt p px py T ck a b : Int) (r : List UInt8) : List UInt8 := hd 0 l 1 x y TT CK ++ msg c (quo lt p px py T ck a b r) k
theorem abt_length : (abt l x y TT CK c k lt p px py T ck a b r).length = 52 + r.length := by unfold abt; rw [hd_len, msg_length, quo_length]; omega
def pre (l x y TT CK c k lt p px py T ck a b : Int) : List UInt8 := abt l x y TT CK c k lt p px py T ck a b []
theorem abt_pre : abt l x y TT CK c k lt p px py T ck a b r = pre l x y TT CK c k lt p px py T ck a b ++ r := rfl
theorem pre_length : (pre l x y TT CK c k lt p px py T ck a b).length = 52 := by unfold pre; rw [abt_length]; rfl
theorem abt_qck : putN (abt l x y TT CK c k lt p px py T ck a b r) 38 2 n = abt l x y TT CK c k lt p px py T n a b r := rfl
theorem abt_src : putN (abt l x y TT CK c k lt p px py T ck a b r) 40 4 n = abt l x y TT CK c k lt p n py T ck a b r := rfl
theorem abt_dst : putN (abt l x y TT CK c k lt p px py T ck a b r) 44 4 n = abt l x y TT CK c k lt p px n T ck a b r := rfl
theorem abt_sp : putN (abt l x y TT CK c k lt p px py T ck a b r) 48 2 n = abt l x y TT CK c k lt p px py T ck n b r := rfl
theorem abt_dp : putN (abt l x y TT CK c k lt p px py T ck a b r) 50 2 n = abt l x y TT CK c k lt p px py T ck a n r := rfl
theorem abt_ck : putN (abt l x y TT CK c k lt p px py T ck a b r) 22 2 n = abt l x y TT CK c n lt p px py T ck a b r := rfl
theorem abt_drop : (abt l x y TT CK c k lt p px py T ck a b r).drop 20 = msg c (quo lt p px py T ck a b r) k := rfl
theorem abt_ends : ((abt l x y TT CK c k lt p px py T ck a b r).take 48).drop 40 = beBytes 4 px ++ beBytes 4 py := rfl
theorem abt_start (l' x' y' TT' CK' k' px' py' ck' a' b' : Int) (r' : List UInt8) : ((abt l x y TT CK c k lt p px py T ck a b r).take 38).drop 28 = ((abt l' x' y' TT' CK' c k' lt p px' py' T ck' a' b' r').take 38).drop 28 := rfl
theorem abt_tail (j : Nat) (h : j + 2 ≤ r.length) (hn : 0 ≤ n ∧ n ≤ 65535) : bput (abt l x y TT CK c k lt p px py T ck a b r) ((52 + j : Nat) : Int) 2 n = abt l x y TT CK c k lt p px py T ck a b (putN r j 2 n) := by
  rw [bput2 hn (by rw [abt_length]; omega), abt_pre, abt_pre, ← pre_length l x y TT CK c k lt p px py T ck a b, putN_right]
end
theorem ipF_abt (l x y c lt p px py T ck a b : Int) (r : List UInt8) : ipF 0 l 1 x y (msgF c (quo lt p px py T ck a b r)) = abt l x y (20 + ((msgF c (quo lt p px py T ck a b r)).length : Int)) (check (hd 0 l 1 x y (20 + ((msgF c (quo lt p px py T ck a b r)).length : Int)) 0)) c (check (msg c (quo lt p px py T ck a b r) 0)) lt p px py T ck a b r := rfl
theorem moved_bounds {c os od u v : Int} (hc : 0 ≤ c ∧ c ≤ 65535) (h1 : 0 ≤ os ∧ os ≤ 4294967295) (h2 : 0 ≤ od ∧ od ≤ 4294967295) (hu : 0 ≤ u ∧ u ≤ 4294967295) (hv : 0 ≤ v ∧ v ≤ 4294967295) : 0 ≤ moved c os od u v ∧ moved c os od u v ≤ 65535 := by
  have B : ∀ {c o n : Int}, 0 ≤ c ∧ c ≤ 65535 → 0 ≤ o ∧ o ≤ 65535 → 0 ≤ n → 0 ≤ update c o n ∧ update c o n ≤ 65535 := fun {c o n} a b d => by
    have := fold16_bounds (n := (65535 - c) + (65535 - o) + n) (by omega)
    unfold update; omega
  unfold moved update32
  exact B (B (B (B hc ⟨by omega, by omega⟩ (by omega)) ⟨by omega, by omega⟩ (by omega)) ⟨by omega, by omega⟩ (by omega)) ⟨by omega, by omega⟩ (by omega)
theorem ports_bounds {c os od u v : Int} (hc : 0 ≤ c ∧ c ≤ 65535) (h1 : 0 ≤ os ∧ os ≤ 65535) (h2 : 0 ≤ od ∧ od ≤ 65535) (hu : 0 ≤ u) (hv : 0 ≤ v) : 0 ≤ movedPorts c os od u v ∧ movedPorts c os od u v ≤ 65535 := by
  have B : ∀ {c o n : Int}, 0 ≤ c ∧ c ≤ 65535 → 0 ≤ o ∧ o ≤ 65535 → 0 ≤ n → 0 ≤ update c o n ∧ update c o n ≤ 65535 := fun {c o n} a b d => by
    have := fold16_bounds (n := (65535 - c) + (65535 - o) + n) (by omega)
    unfold update; omega
  unfold movedPorts
  exact B (B hc h1 hu) h2 hv
theorem get_two (s : List UInt8) (a : Int) : 0 ≤ (get s a 2).1 ∧ (get s a 2).1 ≤ 65535 := by
  unfold Sp.get
  split
  case isTrue h =>
    have h' := has_iff.1 h
    have hl : ((s.drop a.toNat).take (2 : Int).toNat).length = 2 := by rw [List.length_take, List.length_drop]; show min 2 _ = 2; omega
    have hb := beNum_bounds ((s.drop a.toNat).take (2 : Int).toNat)
    rw [hl] at hb
    exact ⟨hb.1, by have := hb.2; show beNum ((s.drop a.toNat).take (2 : Int).toNat) ≤ 65535; omega⟩
  case isFalse => exact ⟨by decide, by decide⟩
theorem turnAbout_F {l x y c lt p px py T ck a b os od u v sp dp : Int} {r : List UInt8} (hp : p = 6 ∨ p = 17) (hl : 1 ≤ l ∧ l ≤ 255) (h4 : 4 ≤ r.length) (hr : r.length ≤ 1400) (hpx : 0 ≤ px ∧ px ≤ 4294967295) (hpy : 0 ≤ py ∧ py ≤ 4294967295) (ha : 0 ≤ a ∧ a ≤ 65535) (hb : 0 ≤ b ∧ b ≤ 65535) (hos : 0 ≤ os ∧ os ≤ 4294967295) (hod : 0 ≤ od ∧ od ≤ 4294967295) (hu : 0 ≤ u ∧ u ≤ 4294967295) (hv : 0 ≤ v ∧ v ≤ 4294967295) (hsp : 0 ≤ sp ∧ sp ≤ 65535) (hdp : 0 ≤ dp ∧ dp ≤ 65535) (P : Pkt) (hP : P = ⟨2, 20, 52 + (r.length : Int), p, px, py, a, b, 0, l, x, y, 28, 48, 0⟩) :
    ∃ ck' r', r'.length = r.length ∧ turnAbout (ipF 0 l 1 x y (msgF c (quo lt p px py T ck a b r))) P os od u v sp dp = ipF 0 (l - 1) 1 os od (msgF c (quo lt p u v T ck' sp dp r')) := by
  subst hP
  have hml : ∀ ck px py a b (r' : List UInt8), r'.length = r.length → ((msgF c (quo lt p px py T ck a b r')).length : Int) = 32 + (r.length : Int) := fun ck px py a b r' h => by rw [msgF_length, quo_length, h]; omega
  unfold turnAbout
  simp only
  rw [List.take_of_length_le (by rw [ipF_length, msgF_length, quo_length]; omega), outer_F hl hos hod, ipF_abt]
  generalize hTT : 20 + ((msgF c (quo lt p px py T ck a b r)).length : Int) = TT
  generalize hCK : check (hd 0 (l - 1) 1 os od TT 0) = CK
  generalize check (msg c (quo lt p px py T ck a b r) 0) = k
  unfold turnQuote
  simp only
  have m1 := moved_bounds (get_two (abt (l - 1) os od TT CK c k lt p px py T ck a b r) (28 + 10)) hpx hpy hu hv
  generalize moved (get (abt (l - 1) os od TT CK c k lt p px py T ck a b r) (28 + 10) 2).1 px py u v = c1 at *
  rw [show bput (abt (l - 1) os od TT CK c k lt p px py T ck a b r) (28 + 10) 2 c1 = _ from bput2 (k := 38) m1 (by rw [abt_length]; omega), abt_qck]
  have hC : ∃ r', r'.length = r.length ∧ turnCheck (abt (l - 1) os od TT CK c k lt p px py T c1 a b r) ⟨2, 20, 52 + (r.length : Int), p, px, py, a, b, 0, l, x, y, 28, 48, 0⟩ u v sp dp = abt (l - 1) os od TT CK c k lt p px py T c1 a b r' := by
    unfold turnCheck
    simp only
    by_cases hc : 48 + (place p).1 + 2 ≤ ((abt (l - 1) os od TT CK c k lt p px py T c1 a b r).length : Int) ∧ ¬ (p = 17 ∧ (get (abt (l - 1) os od TT CK c k lt p px py T c1 a b r) (48 + (place p).1) 2).1 = 0)
    · rw [if_pos hc]
      have hc1 := hc.1
      clear hc
      have m2 := ports_bounds (moved_bounds (get_two (abt (l - 1) os od TT CK c k lt p px py T c1 a b r) (48 + (place p).1)) hpx hpy hu hv) ha hb hsp.1 hdp.1
      generalize movedPorts (moved (get (abt (l - 1) os od TT CK c k lt p px py T c1 a b r) (48 + (place p).1) 2).1 px py u v) a b sp dp = q at *
      obtain ⟨q', hq', hb'⟩ : ∃ q', (if p = 17 ∧ q = 0 then 65535 else q) = q' ∧ 0 ≤ q' ∧ q' ≤ 65535 := ⟨_, rfl, by split <;> omega, by split <;> omega⟩
      rw [hq']
      rw [abt_length] at hc1
      rcases hp with rfl | rfl
      · refine ⟨putN r 12 2 q', putN_length (by have : (place 6).1 = 16 := rfl; omega), ?_⟩
        exact abt_tail (j := 12) _ _ _ _ _ _ _ _ _ _ _ _ _ _ _ _ _ (by have : (place 6).1 = 16 := rfl; omega) hb'
      · refine ⟨putN r 2 2 q', putN_length (by have : (place 17).1 = 6 := rfl; omega), ?_⟩
        exact abt_tail (j := 2) _ _ _ _ _ _ _ _ _ _ _ _ _ _ _ _ _ (by have : (place 17).1 = 6 := rfl; omega) hb'
    · rw [if_neg hc]; exact ⟨r, rfl, rfl⟩
  obtain ⟨r', hr', hC⟩ := hC
  rw [hC]
  refine ⟨c1, r', hr', ?_⟩
  unfold turnInner
  simp only
  rw [show bput (abt (l - 1) os od TT CK c k lt p px py T c1 a b r') (28 + 12) 4 u = _ from bput4 (k := 40) hu (by rw [abt_length]; omega), abt_src]
  rw [show bput (abt (l - 1) os od TT CK c k lt p u py T c1 a b r') (28 + 16) 4 v = _ from bput4 (k := 44) hv (by rw [abt_length]; omega), abt_dst]
  rw [show bput (abt (l - 1) os od TT CK c k lt p u v T c1 a b r') 48 2 sp = _ from bput2 (k := 48) hsp (by rw [abt_length]; omega), abt_sp]
  rw [show bput (abt (l - 1) os od TT CK c k lt p u v T c1 sp b r') (48 + 2) 2 dp = _ from bput2 (k := 50) hdp (by rw [abt_length]; omega), abt_dp]
  unfold recheck
  rw [show bput (abt (l - 1) os od TT CK c k lt p u v T c1 sp dp r') (20 + 2) 2 0 = _ from bput2 (k := 22) (by decide) (by rw [abt_length]; omega), abt_ck]
  rw [List.take_of_length_le (by rw [abt_length]; omega), show (20 : Int).toNat = 20 from rfl, abt_drop]
  rw [show bput (abt (l - 1) os od TT CK c 0 lt p u v T c1 sp dp r') (20 + 2) 2 _ = _ from bput2 (k := 22) (check_bounds _) (by rw [abt_length]; omega), abt_ck]
  rw [ipF_abt, hml _ _ _ _ _ r' hr', ← hCK, ← hTT, hml _ _ _ _ _ r rfl]
/-- a message turned -/
theorem patchAbout_F {l x y c lt p px py T ck a b os od u v sp dp : Int} {r : List UInt8} (hp : p = 6 ∨ p = 17) (hl : 2 ≤ l ∧ l ≤ 255) (hc : 0 ≤ c ∧ c ≤ 255) (hx : 0 ≤ x ∧ x ≤ 4294967295) (hy : 0 ≤ y ∧ y ≤ 4294967295) (h4 : 4 ≤ r.length) (hr : r.length ≤ 1400) (hpx : 0 ≤ px ∧ px ≤ 4294967295) (hpy : 0 ≤ py ∧ py ≤ 4294967295) (ha : 0 ≤ a ∧ a ≤ 65535) (hb : 0 ≤ b ∧ b ≤ 65535) (hos : 0 ≤ os ∧ os ≤ 4294967295) (hod : 0 ≤ od ∧ od ≤ 4294967295) (hu : 0 ≤ u ∧ u ≤ 4294967295) (hv : 0 ≤ v ∧ v ≤ 4294967295) (hsp : 0 ≤ sp ∧ sp ≤ 65535) (hdp : 0 ≤ dp ∧ dp ≤ 65535) :
    ∃ ck' r', r'.length = r.length ∧ patchAbout (ipF 0 l 1 x y (msgF c (quo lt p px py T ck a b r))) os od u v sp dp = (ipF 0 (l - 1) 1 os od (msgF c (quo lt p u v T ck' sp dp r')), 0) := by
  have hk := pkt_about (T := T) (ck := ck) h4 hr hp ⟨by omega, hl.2⟩ lt hc hx hy hpx hpy ha hb []
  rw [List.append_nil, quo_length] at hk
  have hR : ready (ipF 0 l 1 x y (msgF c (quo lt p px py T ck a b r))) 2 sp dp = 0 := by
    rw [ready_of (by rw [hk]) (by rw [hk]) hsp hdp, hk]
    exact if_neg (by show ¬ l < 2; omega)
  obtain ⟨ck', r', h1, h2⟩ := turnAbout_F (x := x) (y := y) (c := c) (lt := lt) (T := T) (ck := ck) hp ⟨by omega, hl.2⟩ h4 hr hpx hpy ha hb hos hod hu hv hsp hdp _ rfl
  refine ⟨ck', r', h1, ?_⟩
  unfold patchAbout
  rw [hR, if_pos rfl, hk, ← h2]
  congr 2
  · simp only [Pkt.mk.injEq, and_true, true_and]; omega
end Go.Proofs.Ytfnjohklmpiboaa.Trn
