/- What is built is parsed as it was; with one bit turned it is not (a body of at most 300 bytes; a bit). -/
import Derived.Test.YthmpmladneiegaaPr24
import Derived.Test.YthmpmladneiegaaLem
set_option linter.unusedVariables false
set_option linter.unusedSimpArgs false
namespace Go.Proofs.Ythmpmladneiegaa.Pure
open Go.RowKit Go.Proofs.Ythmpmladneiegaa.Pr Go.Proofs.Ythmpmladneiegaa.Sp Go.Proofs.Ythmpmladneiegaa.Lem Go.Proofs.YthmpmladneiegaaW.PrintWords Go.Proofs.YthmpmladneiegaaW.PrintLast Go.Proofs.YthmpmladneiegaaW.PrintMore

theorem examples_true : weighbridgelaw07_examples.f = some true := by kernel_rfl
theorem and_u32 {n : Int} (h0 : 0 ≤ n) (h1 : n ≤ 4294967295) : Go.bits .and .u32 n 65535 = n % 65536 :=
  bits_mask .u32 32 (by decide) (fun n a b => IntWalk.u32_in n ⟨a, by omega⟩) 16 (by decide) n h0 (by omega)
theorem icmp_sum {t c r : Int} {b : List UInt8} (h : fits 1 t = true ∧ fits 1 c = true) : sum (icmpBytes t c r b (check (icmpBytes t c r b 0).1)).1 = 65535 := by
  obtain ⟨L, hL⟩ : ∃ L, (icmpBytes t c r b 0).1 = L := ⟨_, rfl⟩
  have hl : L.length = 8 + b.length := by rw [← hL, icmpBytes_length h]
  have e : ∀ n, (icmpBytes t c r b n).1 = put2 L 2 n := fun n => by
    rw [← hL, icmpBytes_yes h, icmpBytes_yes h]; rfl
  have hc := check_bounds L
  rw [hL, e]
  have h0 : wsum (wl L) = wsum (wl (put2 L 2 0)) := by rw [← e, hL]
  have w1 := (wsum_bounds (wl (L.take 2))).1
  have w2 := (wsum_bounds (wl (L.drop (2 + 2)))).1
  rw [wsum_put2 (by decide) (by omega) (by decide) (by decide)] at h0
  unfold sum
  rw [wsum_put2 (by decide) (by omega) hc.1 hc.2]
  unfold check sum
  rw [h0]
  unfold fold16
  (repeat' split) <;> omega
theorem parse_sum (s : ByteArray) (h : 8 ≤ s.size) (h1 : s.size ≤ 281474976710656) (h2 : sum (bl s) ≠ 65535) : icmp_Parse.f s = some (0, 0, 0, ⟨#[]⟩, 7) := by
  unfold icmp_Parse.f
  rw [octet_Get_eq _ _ _ h1, Option.bind_some, get_yes (has_iff.2 ⟨by decide, by decide, by decide, by rw [bl_length]; omega⟩), if_pos rfl, cksum_Sum_eq h1, Option.bind_some, if_neg h2]
theorem bt_zero (x : UInt8) (r : List UInt8) : bt (lb (x :: r)) 0 = (x.toNat : Int) := by
  unfold bt; rw [dif_pos (by rw [lb_size]; exact Nat.succ_pos _)]; rfl
theorem bt_one (x y : UInt8) (r : List UInt8) : bt (lb (x :: y :: r)) 1 = (y.toNat : Int) := by
  unfold bt; rw [dif_pos (by rw [lb_size, List.length_cons, List.length_cons]; show 1 < _; omega)]; rfl
theorem parse_built {t c r : Int} {b : List UInt8} (f : fits 1 t = true ∧ fits 1 c = true) (hr : 0 ≤ r ∧ r ≤ 4294967295) (hb : b.length ≤ 1492) :
    icmp_Parse.f (lb (icmpBytes t c r b (check (icmpBytes t c r b 0).1)).1) = some (t, c, r, lb b, 0) := by
  have hs := icmp_sum (r := r) (b := b) f
  have hl := icmpBytes_length (r := r) (b := b) (ck := check (icmpBytes t c r b 0).1) f
  have b0 := fits1.1 f.1
  have b1 := fits1.1 f.2
  obtain ⟨ck, hck⟩ : ∃ ck, check (icmpBytes t c r b 0).1 = ck := ⟨_, rfl⟩
  rw [hck] at hs hl ⊢
  rw [icmpBytes_yes f] at hs hl ⊢
  obtain ⟨L, hL⟩ : ∃ L, beBytes 1 t ++ beBytes 1 c ++ beBytes 2 ck ++ beBytes 4 r ++ b = L := ⟨_, rfl⟩
  have h0 : bt (lb L) 0 = t := by
    rw [← hL]
    exact (bt_zero (UInt8.ofNat (t % 256).toNat) _).trans ((ofNat_mod t).trans (by omega))
  have h1 : bt (lb L) 1 = c := by
    rw [← hL]
    exact (bt_one (UInt8.ofNat (t % 256).toNat) (UInt8.ofNat (c % 256).toNat) _).trans ((ofNat_mod c).trans (by omega))
  have h4 : (L.drop 4).take 4 = beBytes 4 r := by rw [← hL]; rfl
  have h8 : L.drop 8 = b := by rw [← hL]; rfl
  simp only [hL] at hs hl ⊢
  unfold icmp_Parse.f
  rw [octet_Get_eq _ _ _ (by rw [lb_size]; omega), Option.bind_some, bl_lb, get_yes (has_iff.2 ⟨by decide, by decide, by decide, by omega⟩), if_pos rfl, cksum_Sum_eq (by rw [lb_size]; omega), Option.bind_some, bl_lb, if_pos hs, lb_size, if_pos (by omega), if_pos (by omega), if_pos (by omega), h0, h1]
  have e : (lb L).extract 8 L.length = lb b := bl_inj (by rw [bl_extract, bl_lb, bl_lb, List.take_length, h8])
  have e4 : beNum ((L.drop (4 : Int).toNat).take (4 : Int).toNat) = r := by
    show beNum ((L.drop 4).take 4) = r
    rw [h4, beNum_beBytes 4 r hr.1 (by omega)]
  rw [e]
  show some (wrap64 t, wrap64 c, beNum ((L.drop (4 : Int).toNat).take (4 : Int).toNat) % 4294967296, lb b, (0 : Int)) = _
  rw [e4, w64 (n := t) (by omega) (by omega), w64 (n := c) (by omega) (by omega), Int.emod_eq_of_lt hr.1 (by omega)]
theorem turned {L : List UInt8} (i : Int) (h : 0 ≤ i ∧ i ≤ 9223372036854775807) (h8 : 8 ≤ L.length) (hm : L.length ≤ 1500) (hs : sum L = 65535) {F : (Int × Int × Int × ByteArray × Int) → Option Bool} (hF : F (0, 0, 0, ⟨#[]⟩, 7) = some true) :
    (if (lb L).size ≤ 281474976710656 then ((some (numsOf (lb L) : List Int)).bind fun y => (if (y.length : Int) = 0 then (none) else (if 0 ≤ (Int.tmod (wrap64 (Int.tdiv i 8)) (y.length : Int)) then (if (Int.tmod (wrap64 (Int.tdiv i 8)) (y.length : Int)) < (y.length : Int) then (if 0 ≤ (Int.tmod i 8) then ((icmp_Parse.f (strOfNums (y.set ((Int.tmod (wrap64 (Int.tdiv i 8)) (y.length : Int)) : Int).toNat (Go.bits .xor .u8 (rd y (Int.tmod (wrap64 (Int.tdiv i 8)) (y.length : Int))) (shl .u8 1 (Int.tmod i 8)))))).bind F) else (none)) else (none)) else (none)))) else (none)) = some true := by
  have hn : ((numsOf (lb L)).length : Int) = (L.length : Int) := by rw [numsOf_length, lb_size]
  have hk0 := Int.emod_nonneg (i / 8) (b := (L.length : Int)) (by omega)
  have hk1 := Int.emod_lt_of_pos (i / 8) (b := (L.length : Int)) (by omega)
  obtain ⟨k, hk⟩ : ∃ k : Nat, i / 8 % (L.length : Int) = (k : Int) := ⟨(i / 8 % (L.length : Int)).toNat, by omega⟩
  have hkl : k < L.length := by omega
  rw [if_pos (by rw [lb_size]; omega), Option.bind_some, hn, if_neg (by omega), td 8 h.1, w64 (n := i / 8) (by omega) (by omega), tm _ (by omega : 0 ≤ i / 8), if_pos hk0, if_pos hk1, tm 8 h.1, if_pos (by omega), hk]
  have hlb : k < (bl (lb L)).length := by rw [bl_lb]; exact hkl
  rw [rd_numsOf (lb L) k hlb]
  have hx := ((bl (lb L))[k]'hlb).toNat_lt
  obtain ⟨v, hv, v0, v1, hne, _, _⟩ := bit_turned (x := (((bl (lb L))[k]'hlb).toNat : Int)) (k := i % 8) (by omega) (by omega) (by omega) (by omega)
  rw [hv, Int.toNat_natCast]
  have hsz : (strOfNums ((numsOf (lb L)).set k v)).size = L.length := by rw [strOfNums_size, List.length_set, numsOf_length, lb_size]
  have hs' : sum (bl (lb L)) = 65535 := by rw [bl_lb]; exact hs
  rw [parse_sum _ (by rw [hsz]; exact h8) (by rw [hsz]; omega) (by rw [bl_turned]; exact sum_turned hlb v0 v1 hne hs'), Option.bind_some]
  exact hF
theorem fin_true (a b r : Int) (s : ByteArray) (h : 0 ≤ r ∧ r ≤ 4294967295) (x : Int × Int × Int × ByteArray × Int) (hx : x = (0, 0, 0, ⟨#[]⟩, 7)) :
    ((icmp_MTU.f a b r s).bind fun y => (if true = true then (if (a == a && (b == b && (r == r && (s.toList == s.toList)))) = true then (if (0 : Int) = 0 then (if x.2.2.2.2 = 7 then (if (x.1 == 0 && (x.2.1 == 0 && (x.2.2.1 == 0 && (x.2.2.2.1.toList == ([] : List UInt8))))) = true then (if a = 3 then (if (y.2 == (b == 4)) = true then (if y.2 = true then (some (y.1 == (wrap64 (Int.tmod r 65536)))) else (some true)) else (some false)) else (if (y.2 == false) = true then (if y.2 = true then (some (y.1 == (wrap64 (Int.tmod r 65536)))) else (some true)) else (some false))) else (some false)) else (some false)) else (some false)) else (some false)) else (some false))) = some true := by
  subst hx
  have e : ((⟨#[]⟩ : ByteArray).toList == ([] : List UInt8)) = true := by rw [toL]; rfl
  have hc : ((0 : Int) == 0 && ((0 : Int) == 0 && ((0 : Int) == 0 && ((⟨#[]⟩ : ByteArray).toList == ([] : List UInt8))))) = true := by rw [e]; rfl
  unfold icmp_MTU.f
  rw [and_u32 h.1 h.2, tm 65536 h.1]
  by_cases h1 : a = 3
  · by_cases h2 : b = 4
    · rw [if_neg (by simp [h1, h2]), Option.bind_some, if_pos rfl, if_pos (by simp), if_pos rfl, if_pos rfl, if_pos hc, if_pos h1, if_pos (by simp [h2]), if_pos rfl]; simp
    · rw [if_pos (by simp [h2]), Option.bind_some, if_pos rfl, if_pos (by simp), if_pos rfl, if_pos rfl, if_pos hc, if_pos h1, if_pos (by simp [h2]), if_neg (by simp)]
  · rw [if_pos (by simp [h1]), Option.bind_some, if_pos rfl, if_pos (by simp), if_pos rfl, if_pos rfl, if_pos hc, if_neg h1, if_pos (by simp), if_neg (by simp)]
theorem IcmpBack : weighbridgelaw07_IcmpBack.Pure := by
  intro t c r s i w0 w1 w2 ws w4
  have b0 := wf_u8 w0
  have b1 := wf_u8 w1
  have b2 := wf_u32 w2
  have bi := wf_i64 w4
  refine ⟨1, ?_⟩
  unfold weighbridgelaw07_IcmpBack.f
  obtain ⟨q, hq, hq1, hq2, hq3⟩ := mn_cut s 300
  have f : fits 1 t = true ∧ fits 1 c = true := ⟨fits1.2 b0, fits1.2 b1⟩
  obtain ⟨l, hl⟩ : ∃ l, bl (s.extract 0 ((q : Int)).toNat) = l := ⟨_, rfl⟩
  have hll : l.length = q := by rw [← hl, bl_length, hq3]
  rw [examples_true, Option.bind_some, if_pos rfl, show (300 : Int) = ((300 : Nat) : Int) from rfl, hq, if_pos (by omega), if_pos (by omega), w64 (n := t) (by omega) (by omega), w64 (n := c) (by omega) (by omega), show s.extract 0 ((q : Int)).toNat = lb l by rw [← hl, lb_bl]]
  rw [icmp_Build_eq b2 (by rw [lb_size]; omega), Option.bind_some, bl_lb]
  have v : icmpBuild t c r l = ((icmpBytes t c r l (check (icmpBytes t c r l 0).1)).1, 0) := by
    unfold icmpBuild; rw [if_pos f, if_neg (by omega)]
  have hsum := icmp_sum (r := r) (b := l) f
  have hlen := icmpBytes_length (r := r) (b := l) (ck := check (icmpBytes t c r l 0).1) f
  have hp := parse_built (r := r) (b := l) f b2 (by omega)
  rw [v]
  obtain ⟨L, hL⟩ : ∃ L, (icmpBytes t c r l (check (icmpBytes t c r l 0).1)).1 = L := ⟨_, rfl⟩
  rw [hL] at hsum hlen hp ⊢
  rw [if_pos rfl]
  have hd : ((((lb L).size : Nat) : Int) != wrap64 (8 + (((lb l).size : Nat) : Int))) = false := by
    rw [lb_size, lb_size, w64 (by omega) (by omega), bne_eq_false_iff_eq]; omega
  show weighbridgelaw07_IcmpBack.j0 1 t c r i true (lb L) ((((lb L).size : Nat) : Int) != wrap64 (8 + (((lb l).size : Nat) : Int))) t c r (lb l) = some true
  rw [hd]
  simp only [weighbridgelaw07_IcmpBack.j0]
  rw [if_neg (by decide), hp, Option.bind_some]
  by_cases hi : i < 0
  · rw [if_pos hi, w64 (n := i + 1) (by omega) (by omega), w64 (n := -(i + 1)) (by omega) (by omega)]
    exact turned _ ⟨by omega, by omega⟩ (by omega) (by omega) hsum (fin_true t c r (lb l) b2 _ rfl)
  · rw [if_neg hi]
    exact turned _ ⟨by omega, by omega⟩ (by omega) (by omega) hsum (fin_true t c r (lb l) b2 _ rfl)

end Go.Proofs.Ythmpmladneiegaa.Pure
