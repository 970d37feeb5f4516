/- A message that is cut within its first eight bytes is too short; one whose body is cut by what was not all 0 has another sum. -/
import Derived.Test.YthmpmladneiegaaPr25
import Derived.Test.YthmpmladneiegaaLem
set_option linter.unusedVariables false
set_option linter.unusedSimpArgs false
namespace Go.Proofs.Ythmpmladneiegaa.Pure
open Go.RowKit Go.Proofs.Ythmpmladneiegaa.Pr Go.Proofs.Ythmpmladneiegaa.Sp Go.Proofs.Ythmpmladneiegaa.Lem Go.Proofs.YthmpmladneiegaaW.PrintWords Go.Proofs.YthmpmladneiegaaW.PrintLast Go.Proofs.YthmpmladneiegaaW.PrintMore

theorem examples_true : weighbridgelaw07_examples.f = some true := by kernel_rfl
theorem wsum_snoc1 (m : List UInt8) (b : UInt8) : wsum (wl (m ++ [b])) = wsum (wl m) + (if m.length % 2 = 0 then (b.toNat : Int) * 256 else (b.toNat : Int)) := by
  induction m using wl.induct with
  | case1 =>
    have := b.toNat_lt
    show wsum [UInt16.ofNat (b.toNat * 256)] = _
    rw [wsum_cons, UInt16.toNat_ofNat']
    show _ + wsum [] = wsum [] + _
    simp only [wsum, List.foldl_nil, List.length_nil]
    rw [if_pos (by decide)]; omega
  | case2 x =>
    have := x.toNat_lt
    rw [List.singleton_append, wsum_two, if_neg (by simp)]
    show _ = wsum [UInt16.ofNat (x.toNat * 256)] + _
    rw [wsum_cons, UInt16.toNat_ofNat']
    show _ + wsum [] = _ + wsum [] + _
    simp only [wsum, List.foldl_nil]
    omega
  | case3 x y r ih =>
    rw [List.cons_append, List.cons_append, wsum_two, wsum_two, ih]
    have e : (x :: y :: r).length % 2 = r.length % 2 := by simp only [List.length_cons]; omega
    rw [e]; omega
theorem icmp_sum {t c r : Int} {b : List UInt8} (h : fits 1 t = true ∧ fits 1 c = true) : sum (icmpBytes t c r b (check (icmpBytes t c r b 0).1)).1 = 65535 := by
  obtain ⟨L, hL⟩ : ∃ L, (icmpBytes t c r b 0).1 = L := ⟨_, rfl⟩
  have hl : L.length = 8 + b.length := by rw [← hL, icmpBytes_length h]
  have e : ∀ n, (icmpBytes t c r b n).1 = put2 L 2 n := fun n => by
    rw [← hL, icmpBytes_yes h, icmpBytes_yes h]; rfl
  have hc := check_bounds L
  rw [hL, e]
  have h0 : wsum (wl L) = wsum (wl (put2 L 2 0)) := by rw [← e, hL]
  have w1 := (wsum_bounds (wl (L.take 2))).1
  have w2 := (wsum_bounds (wl (L.drop (2 + 2)))).1
  rw [wsum_put2 (by decide) (by omega) (by decide) (by decide)] at h0
  unfold sum
  rw [wsum_put2 (by decide) (by omega) hc.1 hc.2]
  unfold check sum
  rw [h0]
  unfold fold16
  (repeat' split) <;> omega
theorem parse_short (s : ByteArray) (h : s.size < 8) : icmp_Parse.f s = some (0, 0, 0, ⟨#[]⟩, 2) := by
  unfold icmp_Parse.f
  rw [octet_Get_eq _ _ _ (by omega), Option.bind_some, get_no (has_no (by rw [bl_length]; omega)), if_neg (by decide)]
theorem parse_sum (s : ByteArray) (h : 8 ≤ s.size) (h1 : s.size ≤ 281474976710656) (h2 : sum (bl s) ≠ 65535) : icmp_Parse.f s = some (0, 0, 0, ⟨#[]⟩, 7) := by
  unfold icmp_Parse.f
  rw [octet_Get_eq _ _ _ h1, Option.bind_some, get_yes (has_iff.2 ⟨by decide, by decide, by decide, by rw [bl_length]; omega⟩), if_pos rfl, cksum_Sum_eq h1, Option.bind_some, if_neg h2]
theorem IcmpCut : weighbridgelaw07_IcmpCut.Pure := by
  intro t s n w0 hs w2
  have b0 := wf_u8 w0
  have b2 := wf_u8 w2
  refine ⟨1, ?_⟩
  unfold weighbridgelaw07_IcmpCut.f
  obtain ⟨q, hq, hq1, hq2, hq3⟩ := mn_cut s 100
  rw [examples_true, Option.bind_some, if_pos rfl, show (100 : Int) = ((100 : Nat) : Int) from rfl, hq, if_pos (by omega), if_pos (by omega), if_pos (by omega), w64 (n := t) (by omega) (by omega)]
  obtain ⟨l, hl⟩ : ∃ l, bl (s.extract 0 ((q : Int)).toNat) = l := ⟨_, rfl⟩
  have hll : l.length = q := by rw [← hl, bl_length, hq3]
  have hx : (⟨#[120]⟩ : ByteArray) = lb [120] := rfl
  have f : fits 1 t = true ∧ fits 1 0 = true := ⟨fits1.2 b0, by decide⟩
  have e0 : (⟨#[]⟩ : ByteArray) = lb [] := rfl
  rw [show s.extract 0 ((q : Int)).toNat = lb l by rw [← hl, lb_bl], hx, lb_append, e0, icmp_Build_eq (by decide) (by rw [lb_size, List.length_append]; simp; omega), Option.bind_some, icmp_Build_eq (a0_0 := 256) (by decide) (by rw [lb_size]; decide), Option.bind_some,
    icmp_Build_eq (a0_1 := -1) (by decide) (by rw [lb_size]; decide), Option.bind_some, bl_lb, bl_lb]
  have v1 : (icmpBuild 256 0 0 []).2 = 1 := by unfold icmpBuild; rw [if_neg (by decide)]
  have v2 : (icmpBuild 0 (-1) 0 []).2 = 1 := by unfold icmpBuild; rw [if_neg (by decide)]
  have v : icmpBuild t 0 0 (l ++ [120]) = ((icmpBytes t 0 0 (l ++ [120]) (check (icmpBytes t 0 0 (l ++ [120]) 0).1)).1, 0) := by
    unfold icmpBuild; rw [if_pos f, if_neg (by rw [List.length_append]; simp; omega)]
  have hsum := icmp_sum (r := 0) (b := l ++ [120]) f
  have hlen := icmpBytes_length (r := 0) (b := l ++ [120]) (ck := check (icmpBytes t 0 0 (l ++ [120]) 0).1) f
  have hsp : ∃ m, (icmpBytes t 0 0 (l ++ [120]) (check (icmpBytes t 0 0 (l ++ [120]) 0).1)).1 = m ++ [120] := by
    rw [icmpBytes_yes (ck := check (icmpBytes t 0 0 (l ++ [120]) 0).1) f]
    exact ⟨_, (List.append_assoc _ _ _).symm⟩
  obtain ⟨m, hm⟩ := hsp
  rw [List.length_append] at hlen
  rw [v, v1, v2, if_pos rfl]
  rw [hm] at hsum hlen ⊢
  rw [List.length_append] at hlen
  have hml : m.length = 8 + l.length := by simp at hlen; omega
  have hz : (lb (m ++ [120])).size = m.length + 1 := by rw [lb_size, List.length_append]; rfl
  have hd : ((((lb (m ++ [120])).size : Nat) : Int) != wrap64 (8 + (((lb (l ++ [120])).size : Nat) : Int))) = false := by
    rw [lb_size, lb_size, List.length_append, List.length_append, w64 (by simp; omega) (by simp; omega), bne_eq_false_iff_eq]; simp; omega
  show weighbridgelaw07_IcmpCut.j0 1 n true (lb (m ++ [120])) 1 1 ((((lb (m ++ [120])).size : Nat) : Int) != wrap64 (8 + (((lb (l ++ [120])).size : Nat) : Int))) = some true
  rw [hd]
  simp only [weighbridgelaw07_IcmpCut.j0]
  rw [if_neg (by decide), tm 8 b2.1, w64 (n := n % 8) (by omega) (by omega), hz, w64 (n := ((m.length + 1 : Nat) : Int) - 1) (by omega) (by omega), if_pos (by omega), if_pos (by omega)]
  have hcut : (lb (m ++ [120])).extract 0 (((m.length + 1 : Nat) : Int) - 1).toNat = lb m := bl_inj (by
    rw [bl_extract, bl_lb, bl_lb, List.drop_zero, show (((m.length + 1 : Nat) : Int) - 1).toNat = m.length by omega, List.take_left' rfl])
  have hne : sum m ≠ 65535 := by
    have w := (wsum_bounds (wl m)).1
    have h1 := wsum_snoc1 m 120
    have e : ((120 : UInt8).toNat : Int) = 120 := rfl
    rw [e] at h1
    unfold sum fold16 at hsum ⊢
    rw [h1] at hsum
    by_cases hp : m.length % 2 = 0
    · rw [if_pos hp] at hsum
      (repeat' split) <;> (split at hsum <;> omega)
    · rw [if_neg hp] at hsum
      (repeat' split) <;> (split at hsum <;> omega)
  rw [parse_short _ (by rw [ByteArray.size_extract, hz]; omega), Option.bind_some, if_pos (by omega), if_pos (by omega), hcut, parse_sum _ (by rw [lb_size]; omega) (by rw [lb_size]; omega) (by rw [bl_lb]; exact hne), Option.bind_some, if_pos trivial]
  rfl

end Go.Proofs.Ythmpmladneiegaa.Pure
