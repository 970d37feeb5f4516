/- A port, a window, flags, options have just the room that they have (options of 1s, so many). -/
import Derived.Test.YtlhpfoibohiggaaPr13
import Derived.Test.YtlhpfoibohiggaaLem
set_option linter.unusedVariables false
set_option linter.unusedSimpArgs false
namespace Go.Proofs.Ytlhpfoibohiggaa.Pure
open Go.RowKit Go.Proofs.Ytlhpfoibohiggaa.Pr Go.Proofs.Ytlhpfoibohiggaa.Sp Go.Proofs.Ytlhpfoibohiggaa.Lem Go.Proofs.YtlhpfoibohiggaaW.PrintWords Go.Proofs.YtlhpfoibohiggaaW.PrintLast Go.Proofs.YtlhpfoibohiggaaW.PrintMore

theorem examples_true : weighbridgelaw05_examples.f = some true := by kernel_rfl
theorem ones_opts : ∀ n, optsOk (List.replicate n 1) = true := by
  intro n
  induction n with
  | zero => rfl
  | succ n ih => rw [List.replicate_succ, optsOk_one, ih]
/-- a row of 0s whose first i are 1s -/
def onesTo (n i : Nat) : List Int := List.replicate i 1 ++ List.replicate (n - i) 0
theorem onesTo_set {n i : Nat} (h : i < n) : (onesTo n i).set i 1 = onesTo n (i + 1) := by
  unfold onesTo
  have e : n - i = (n - (i + 1)) + 1 := by omega
  rw [e, List.replicate_succ, List.set_append_right _ _ (by simp), List.length_replicate, Nat.sub_self, List.set_cons_zero, List.replicate_succ' (n := i), List.append_assoc]
  rfl
theorem onesTo_length {n i : Nat} (h : i ≤ n) : (onesTo n i).length = n := by unfold onesTo; rw [List.length_append, List.length_replicate, List.length_replicate]; omega
theorem onesTo_text (n : Nat) : strOfNums (onesTo n n) = lb (List.replicate n 1) := by
  unfold onesTo
  rw [Nat.sub_self, List.replicate_zero, List.append_nil]
  refine bl_inj ?_
  rw [bl_lb]
  show (List.replicate n (1 : Int)).map (fun n => UInt8.ofNat n.toNat) = _
  rw [List.map_replicate]; rfl
theorem ok_iff (a b e f g : Int) (o s : List UInt8) (c d : Int) (hs : 20 + (o.length : Int) + (s.length : Int) ≤ 1500) : ((tcpBuild a b c d e f g o s).2 == 0) = tcpRight a b e f g o := by
  unfold tcpBuild
  by_cases h : tcpRight a b e f g o = true
  · rw [if_pos h, if_neg (by omega), h]; rfl
  · rw [if_neg h, bool_no h]; rfl
theorem right_port (a : Int) : tcpRight a 0 0 0 0 [] = fits 2 a := by
  have h : fits 2 0 = true := by decide
  unfold tcpRight; rw [h]; simp [optsOk_nil]
theorem right_win (a : Int) : tcpRight 0 0 0 a 0 [] = fits 2 a := by
  have h : fits 2 0 = true := by decide
  unfold tcpRight; rw [h]; simp [optsOk_nil]
theorem right_flags (a : Int) : tcpRight 0 0 a 0 0 [] = decide (0 ≤ a ∧ a ≤ 4095) := by
  have h : fits 2 0 = true := by decide
  unfold tcpRight; rw [h]; simp [optsOk_nil]
theorem right_opts (n : Nat) : tcpRight 0 0 0 0 0 (List.replicate n 1) = decide (n ≤ 40 ∧ n % 4 = 0) := by
  have h : fits 2 0 = true := by decide
  unfold tcpRight; rw [h, ones_opts]; simp
theorem gate {x m : Int} {b : Bool} (h : b = decide (0 ≤ x ∧ x ≤ m)) {t e : Option Bool} (ht : t = some true) (he : e = some true) :
    (if x ≥ 0 then (if (b == decide (x ≤ m)) = true then t else some false) else (if (b == false) = true then e else some false)) = some true := by
  by_cases h0 : x ≥ 0
  · rw [if_pos h0]
    by_cases h1 : x ≤ m
    · rw [h, decide_eq_true (show 0 ≤ x ∧ x ≤ m from ⟨h0, h1⟩), decide_eq_true h1, if_pos (by rfl), ht]
    · rw [h, decide_eq_false (fun g => h1 g.2), decide_eq_false h1, if_pos (by rfl), ht]
  · rw [if_neg h0, h, decide_eq_false (fun g => h0 g.1), if_pos (by rfl), he]
theorem limits_end (x0 x1 x2 : Int) (n : Nat) (hn : n ≤ 59) (k : Nat) : weighbridgelaw05_TcpLimits.l0 (k + 1) x0 x1 x2 true (n : Int) (onesTo n n) (n : Int) = some true := by
  have u0 : (0 : Int) ≤ 0 ∧ (0 : Int) ≤ 4294967295 := by decide
  have z0 : (⟨#[]⟩ : ByteArray).size ≤ 140737488355328 := by decide
  have z1 : (⟨#[120]⟩ : ByteArray).size ≤ 140737488355328 := by decide
  have e0 : bl (⟨#[]⟩ : ByteArray) = [] := rfl
  have e1 : bl (⟨#[120]⟩ : ByteArray) = [120] := rfl
  rw [weighbridgelaw05_TcpLimits.l0, if_neg (by omega), onesTo_text, tcp_Build_eq u0 u0 z0 z0, Option.bind_some, tcp_Build_eq u0 u0 z0 z0, Option.bind_some, tcp_Build_eq u0 u0 z0 z0, Option.bind_some, tcp_Build_eq u0 u0 (by rw [lb_size, List.length_replicate]; omega) z1, Option.bind_some, e0, e1, bl_lb]
  have h1 := ok_iff x0 0 0 0 0 [] [] 0 0 (by simp)
  have h2 := ok_iff 0 0 0 x1 0 [] [] 0 0 (by simp)
  have h3 := ok_iff 0 0 x2 0 0 [] [] 0 0 (by simp)
  have h4 := ok_iff 0 0 0 0 0 (List.replicate n 1) [120] 0 0 (by simp; omega)
  rw [right_port, fits2_b] at h1
  rw [right_win, fits2_b] at h2
  rw [right_flags] at h3
  rw [right_opts] at h4
  have hs : n ≤ 40 ∧ n % 4 = 0 → (lb (tcpBuild 0 0 0 0 0 0 0 (List.replicate n 1) [120]).1).size = 21 + n := fun h => by
    have r : tcpRight 0 0 0 0 0 (List.replicate n 1) = true := by rw [right_opts]; exact decide_eq_true h
    unfold tcpBuild
    rw [if_pos r, if_neg (by simp; omega), lb_size]
    simp only [List.length_append, tcpHead_length, List.length_replicate]
    simp; omega
  rw [tm 4 (by omega), w64 (n := 21 + (n : Int)) (by omega) (by omega)]
  generalize tcpBuild x0 0 0 0 0 0 0 [] [] = B1 at *
  generalize tcpBuild 0 0 0 0 0 x1 0 [] [] = B2 at *
  generalize tcpBuild 0 0 0 0 x2 0 0 [] [] = B3 at *
  generalize tcpBuild 0 0 0 0 0 0 0 (List.replicate n 1) [120] = B4 at *
  by_cases hm : (n : Int) % 4 = 0
  · rw [if_pos hm, if_pos rfl]
    have g4 : ((B4.2 == 0) == (decide ((n : Int) ≤ 40))) = true := by
      rw [h4]
      by_cases h40 : n ≤ 40
      · rw [decide_eq_true (show n ≤ 40 ∧ n % 4 = 0 by omega), decide_eq_true (show (n : Int) ≤ 40 by omega)]; rfl
      · rw [decide_eq_false (show ¬ (n ≤ 40 ∧ n % 4 = 0) by omega), decide_eq_false (show ¬ (n : Int) ≤ 40 by omega)]; rfl
    have g5 : (if (n : Int) ≤ 40 then some (((lb B4.1).size : Int) == 21 + (n : Int)) else some true) = some true := by
      by_cases h40 : n ≤ 40
      · rw [if_pos (by omega), hs (by omega)]
        have e : ((21 + n : Nat) : Int) = 21 + (n : Int) := by omega
        rw [e]; simp
      · rw [if_neg (by omega)]
    simp only [if_pos g4, g5]
    exact gate h1 (gate h2 (gate h3 rfl rfl) (gate h3 rfl rfl)) (gate h2 (gate h3 rfl rfl) (gate h3 rfl rfl))
  · rw [if_neg hm, if_pos rfl]
    have g4 : ((B4.2 == 0) == false) = true := by
      rw [h4, decide_eq_false (show ¬ (n ≤ 40 ∧ n % 4 = 0) by omega)]; rfl
    simp only [if_pos g4]
    exact gate h1 (gate h2 (gate h3 rfl rfl) (gate h3 rfl rfl)) (gate h2 (gate h3 rfl rfl) (gate h3 rfl rfl))
theorem limits_loop (x0 x1 x2 : Int) (n : Nat) (hn : n ≤ 59) : ∀ (m i : Nat), i + m = n → ∀ k, m + 1 ≤ k → weighbridgelaw05_TcpLimits.l0 k x0 x1 x2 true (n : Int) (onesTo n i) (i : Int) = some true := by
  intro m
  induction m with
  | zero =>
    intro i hi k hk
    obtain ⟨k, rfl⟩ : ∃ k', k = k' + 1 := ⟨k - 1, by omega⟩
    obtain rfl : i = n := by omega
    exact limits_end x0 x1 x2 i hn k
  | succ m ih =>
    intro i hi k hk
    obtain ⟨k, rfl⟩ : ∃ k', k = k' + 1 := ⟨k - 1, by omega⟩
    have := ih (i + 1) (by omega) k (by omega)
    rw [show (((i + 1 : Nat)) : Int) = (i : Int) + 1 by omega] at this
    rw [weighbridgelaw05_TcpLimits.l0, if_pos (by omega), if_pos (by omega), if_pos (by rw [onesTo_length (by omega)]; omega), Int.toNat_natCast, onesTo_set (by omega), w64 (n := (i : Int) + 1) (by omega) (by omega)]
    exact this
theorem TcpLimits : weighbridgelaw05_TcpLimits.Pure := by
  intro a b c d wa wb wc wd
  have bd := wf_u8 wd
  obtain ⟨n, hn⟩ : ∃ n : Nat, d % 60 = (n : Int) := ⟨(d % 60).toNat, by omega⟩
  refine ⟨n + 1, ?_⟩
  unfold weighbridgelaw05_TcpLimits.f
  rw [examples_true, Option.bind_some, if_pos rfl, tm 60 bd.1, w64 (n := d % 60) (by omega) (by omega), hn, if_pos (by omega), if_pos (by omega), Int.toNat_natCast]
  have e : List.replicate n (0 : Int) = onesTo n 0 := by unfold onesTo; simp
  rw [e]
  exact limits_loop a b c n (by omega) n 0 (by omega) (n + 1) (by omega)

end Go.Proofs.Ytlhpfoibohiggaa.Pure
