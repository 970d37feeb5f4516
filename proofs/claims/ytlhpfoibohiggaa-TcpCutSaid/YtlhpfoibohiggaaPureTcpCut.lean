/- A segment that is cut within its header is refused; behind it the body is what is left (a body of at most 100 bytes; options of 1s). -/
import Derived.Test.YtlhpfoibohiggaaPr14
import Derived.Test.YtlhpfoibohiggaaLem
import Derived.Test.YtlhpfoibohiggaaPureTcpLimits
set_option linter.unusedVariables false
set_option linter.unusedSimpArgs false
namespace Go.Proofs.Ytlhpfoibohiggaa.Pure
open Go.RowKit Go.Proofs.Ytlhpfoibohiggaa.Pr Go.Proofs.Ytlhpfoibohiggaa.Sp Go.Proofs.Ytlhpfoibohiggaa.Lem Go.Proofs.YtlhpfoibohiggaaW.PrintWords Go.Proofs.YtlhpfoibohiggaaW.PrintLast Go.Proofs.YtlhpfoibohiggaaW.PrintMore

theorem cut_end (body : ByteArray) (hb : body.size ≤ 100) (c : Int) (hc : 0 ≤ c ∧ c ≤ 255) (n : Nat) (hn : n ≤ 40 ∧ n % 4 = 0) (k : Nat) : weighbridgelaw05_TcpCut.l0 (k + 1 + 1) body c true (n : Int) (onesTo n n) (n : Int) = some true := by
  have u0 : (0 : Int) ≤ 0 ∧ (0 : Int) ≤ 4294967295 := by decide
  have f0 : fits 2 0 = true := by decide
  have f5 : fits 2 5 = true := by decide
  have hbl := bl_length body
  have R : tcpRight 5 0 0 0 0 (List.replicate n 1) = true := tcpRight_iff.2 ⟨f5, f0, f0, f0, by decide, by rw [List.length_replicate]; exact hn, ones_opts n⟩
  rw [weighbridgelaw05_TcpCut.l0, if_neg (by omega), onesTo_text, tcp_Build_eq u0 u0 (by rw [lb_size, List.length_replicate]; omega) (by omega), Option.bind_some, bl_lb, tcpBuild_yes R (by rw [List.length_replicate]; omega), if_pos rfl]
  simp only
  obtain ⟨L, hL⟩ : ∃ L, tcpHead 5 0 0 0 0 0 0 (List.replicate n 1) ++ List.replicate n 1 ++ bl body = L := ⟨_, rfl⟩
  have hLl : L.length = 20 + n + body.size := by rw [← hL]; simp only [List.length_append, tcpHead_length, List.length_replicate, hbl]
  rw [hL]
  have hd : ((((lb L).size : Nat) : Int) != wrap64 (wrap64 (20 + (n : Int)) + (body.size : Int))) = false := by
    rw [lb_size, hLl, w64 (n := 20 + (n : Int)) (by omega) (by omega), w64 (by omega) (by omega), bne_eq_false_iff_eq]; omega
  rw [hd, weighbridgelaw05_TcpCut.j1, if_neg (by decide), lb_size, hLl, w64 (n := ((20 + n + body.size : Nat) : Int) + 1) (by omega) (by omega), if_neg (by omega), w64 (n := c) (by omega) (by omega), tm _ hc.1]
  obtain ⟨q, hq⟩ : ∃ q : Nat, c % (((20 + n + body.size : Nat) : Int) + 1) = (q : Int) := ⟨(c % (((20 + n + body.size : Nat) : Int) + 1)).toNat, by have := Int.emod_nonneg c (b := ((20 + n + body.size : Nat) : Int) + 1) (by omega); omega⟩
  have hq1 : q ≤ 20 + n + body.size := by have := Int.emod_lt_of_pos c (b := ((20 + n + body.size : Nat) : Int) + 1) (by omega); omega
  have hx : (lb L).extract 0 ((q : Int)).toNat = lb (L.take q) := bl_inj (by rw [bl_extract, bl_lb, bl_lb, Int.toNat_natCast, List.drop_zero])
  have hql : (L.take q).length = q := by rw [List.length_take]; omega
  rw [hq, if_pos (by omega), if_pos (by omega), hx, tcp_Parse_eq (by rw [lb_size, hql]; omega), Option.bind_some, bl_lb, w64 (n := 20 + (n : Int)) (by omega) (by omega), w64 (n := (q : Int) - 20) (by omega) (by omega), w64 (n := (q : Int) - 20 - (n : Int)) (by omega) (by omega)]
  by_cases h1 : q < 20
  · rw [if_pos (by omega), if_pos rfl, tcpParse_short (by omega)]; rfl
  · rw [if_neg (by omega)]
    by_cases h2 : q < 20 + n
    · have hh : (L.take q).take 13 = (tcpHead 5 0 0 0 0 0 0 (List.replicate n 1)).take 13 := by
        rw [List.take_take, Nat.min_eq_left (by omega), ← hL]; rfl
      rw [if_pos (by omega), if_pos rfl, tcpParse_cut R _ hh (by omega) (by rw [List.length_replicate]; omega)]; rfl
    · have hh : L.take q = tcpHead 5 0 0 0 0 0 0 (List.replicate n 1) ++ List.replicate n 1 ++ (bl body).take (q - 20 - n) := by
        rw [← hL, List.take_append, List.take_of_length_le (by simp only [List.length_append, tcpHead_length, List.length_replicate]; omega)]
        simp only [List.length_append, tcpHead_length, List.length_replicate]
        rw [show q - (20 + n) = q - 20 - n by omega]
      rw [if_neg (by omega), if_pos rfl, hh, tcpParse_head R u0 u0, if_pos rfl, if_pos (by omega), if_pos (by omega)]
      have e : body.extract 0 ((q : Int) - 20 - (n : Int)).toNat = lb ((bl body).take (q - 20 - n)) := bl_inj (by
        rw [bl_extract, bl_lb, List.drop_zero, show ((q : Int) - 20 - (n : Int)).toNat = q - 20 - n by omega])
      rw [e]; simp
theorem cut_loop (body : ByteArray) (hb : body.size ≤ 100) (c : Int) (hc : 0 ≤ c ∧ c ≤ 255) (n : Nat) (hn : n ≤ 40 ∧ n % 4 = 0) : ∀ (m i : Nat), i + m = n → ∀ k, m + 2 ≤ k → weighbridgelaw05_TcpCut.l0 k body c true (n : Int) (onesTo n i) (i : Int) = some true := by
  intro m
  induction m with
  | zero =>
    intro i hi k hk
    obtain ⟨k, rfl⟩ : ∃ k', k = k' + 1 + 1 := ⟨k - 2, by omega⟩
    obtain rfl : i = n := by omega
    exact cut_end body hb c hc i hn k
  | succ m ih =>
    intro i hi k hk
    obtain ⟨k, rfl⟩ : ∃ k', k = k' + 1 := ⟨k - 1, by omega⟩
    have := ih (i + 1) (by omega) k (by omega)
    rw [show (((i + 1 : Nat)) : Int) = (i : Int) + 1 by omega] at this
    rw [weighbridgelaw05_TcpCut.l0, if_pos (by omega), if_pos (by omega), if_pos (by rw [onesTo_length (by omega)]; omega), Int.toNat_natCast, onesTo_set (by omega), w64 (n := (i : Int) + 1) (by omega) (by omega)]
    exact this
theorem TcpCut : weighbridgelaw05_TcpCut.Pure := by
  intro s c o ws wc wo
  have bc := wf_u8 wc
  have bo := wf_u8 wo
  obtain ⟨n, hn⟩ : ∃ n : Nat, 4 * (o % 11) = (n : Int) := ⟨(4 * (o % 11)).toNat, by omega⟩
  refine ⟨n + 2, ?_⟩
  unfold weighbridgelaw05_TcpCut.f
  obtain ⟨q, hq, hq1, hq2, hq3⟩ := mn_cut s 100
  rw [examples_true, Option.bind_some, if_pos rfl, show (100 : Int) = ((100 : Nat) : Int) from rfl, hq, if_pos (by omega), if_pos (by omega), tm 11 bo.1, w64 (n := o % 11) (by omega) (by omega), w64 (n := 4 * (o % 11)) (by omega) (by omega), hn, if_pos (by omega), if_pos (by omega), Int.toNat_natCast n]
  have e : List.replicate n (0 : Int) = onesTo n 0 := by unfold onesTo; simp
  rw [e]
  exact cut_loop _ (by rw [hq3]; omega) c bc n (by omega) n 0 (by omega) (n + 2) (by omega)

end Go.Proofs.Ytlhpfoibohiggaa.Pure
