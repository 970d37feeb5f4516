/- A segment of TCP is filled and verified; its check stands at its place; of another address it is not, if just one bit is another one. -/
import Derived.Test.YtpjimpdfjacnoaaPr12
import Derived.Test.YtpjimpdfjacnoaaLem
set_option linter.unusedVariables false
set_option linter.unusedSimpArgs false
namespace Go.Proofs.Ytpjimpdfjacnoaa.Pure
open Go.RowKit Go.Proofs.Ytpjimpdfjacnoaa.Pr Go.Proofs.Ytpjimpdfjacnoaa.Sp Go.Proofs.Ytpjimpdfjacnoaa.Lem Go.Proofs.YtpjimpdfjacnoaaW.PrintWords Go.Proofs.YtpjimpdfjacnoaaW.PrintLast Go.Proofs.YtpjimpdfjacnoaaW.PrintMore

theorem examples_true : weighbridgelaw08_examples.f = some true := by kernel_rfl
theorem xor_pow (j : Nat) : ∀ a : Nat, a ^^^ 2 ^ j = a + 2 ^ j ∨ (2 ^ j ≤ a ∧ a ^^^ 2 ^ j = a - 2 ^ j) := by
  induction j with
  | zero =>
    intro a
    have h2 : (a ^^^ 1) / 2 = a / 2 := by rw [Nat.xor_div_two]; exact Nat.xor_zero _
    have h3 := Nat.xor_mod_two_eq_one (a := a) (b := 1)
    rw [Nat.pow_zero]
    by_cases h : a % 2 = 1
    · right
      have : ¬ (a ^^^ 1) % 2 = 1 := fun x => (h3.1 x) ⟨fun _ => rfl, fun _ => h⟩
      omega
    · left
      have : (a ^^^ 1) % 2 = 1 := h3.2 (fun x => h (x.2 rfl))
      omega
  | succ j ih =>
    intro a
    have hp : 2 ^ (j + 1) = 2 * 2 ^ j := by rw [Nat.pow_succ]; omega
    have h2 : (a ^^^ 2 ^ (j + 1)) / 2 = a / 2 ^^^ 2 ^ j := by rw [Nat.xor_div_two]; congr 1; omega
    have h3 : (a ^^^ 2 ^ (j + 1)) % 2 = a % 2 := by
      have := Nat.xor_mod_two_eq_one (a := a) (b := 2 ^ (j + 1))
      have hz : ¬ 2 ^ (j + 1) % 2 = 1 := by omega
      by_cases h : a % 2 = 1
      · have := this.2 (fun x => hz (x.1 h)); omega
      · have : ¬ (a ^^^ 2 ^ (j + 1)) % 2 = 1 := fun y => (this.1 y) ⟨fun x => absurd x h, fun x => absurd x hz⟩
        omega
    rcases ih (a / 2) with e | ⟨e1, e⟩
    · left; omega
    · right; omega
theorem pow_cases {j : Nat} (h : j < 32) : (2 ^ j < 65535 ∧ j < 16 ∧ 0 < 2 ^ j) ∨ ∃ i, i < 16 ∧ 2 ^ j = 65536 * 2 ^ i ∧ 2 ^ i < 65535 ∧ 0 < 2 ^ i := by
  by_cases h1 : j < 16
  · have : 2 ^ j ≤ 2 ^ 15 := Nat.pow_le_pow_right (by decide) (by omega)
    exact .inl ⟨by omega, h1, Nat.pow_pos (by decide)⟩
  · refine .inr ⟨j - 16, by omega, ?_, ?_, Nat.pow_pos (by decide)⟩
    · rw [show 65536 = 2 ^ 16 by rfl, ← Nat.pow_add]; congr 1; omega
    · have : 2 ^ (j - 16) ≤ 2 ^ 15 := Nat.pow_le_pow_right (by decide) (by omega)
      omega
theorem shlu32 {y : Nat} (h : y < 32) : shl .u32 1 (y : Int) = ((2 ^ y : Nat) : Int) := by
  unfold shl
  have h1 : 2 ^ y ≤ 2 ^ 31 := Nat.pow_le_pow_right (by decide) (by omega)
  have h2 : 0 < 2 ^ y := Nat.pow_pos (by decide)
  rw [Int.toNat_natCast, show IntKind.bits .u32 = 32 from rfl, Nat.min_eq_left (by omega), Int.one_mul, show ((2 : Int) ^ y) = ((2 ^ y : Nat) : Int) by push_cast; rfl]
  exact IntWalk.u32_in _ ⟨by omega, by omega⟩
theorem xor32 (a b : Nat) (ha : a < 4294967296) (hb : b < 4294967296) : Go.bits .xor .u32 (a : Int) (b : Int) = ((a ^^^ b : Nat) : Int) := by
  have hx : a ^^^ b < 2 ^ 32 := Nat.xor_lt_two_pow (by omega) (by omega)
  show IntKind.u32.wrap (((BitVec.ofInt 32 (a : Int) ^^^ BitVec.ofInt 32 (b : Int)).toNat : Nat) : Int) = _
  rw [BitVec.ofInt_natCast, BitVec.ofInt_natCast, BitVec.toNat_xor, BitVec.toNat_ofNat, BitVec.toNat_ofNat, Nat.mod_eq_of_lt (by omega), Nat.mod_eq_of_lt (by omega)]
  exact IntWalk.u32_in _ ⟨by omega, by omega⟩
theorem other_addr {a : Int} {j : Nat} (ha : 0 ≤ a ∧ a ≤ 4294967295) (hj : j < 32) :
    ∃ c d : Int, Go.bits .xor .u32 a (shl .u32 1 (j : Int)) = c ∧ (0 ≤ c ∧ c ≤ 4294967295) ∧ c / 65536 + c % 65536 = a / 65536 + a % 65536 + d ∧ d % 65535 ≠ 0 := by
  obtain ⟨x, rfl⟩ := Int.eq_ofNat_of_zero_le ha.1
  have hp : 2 ^ j ≤ 2 ^ 31 := Nat.pow_le_pow_right (by decide) (by omega)
  have hx : x ^^^ 2 ^ j < 2 ^ 32 := Nat.xor_lt_two_pow (by omega) (by omega)
  rw [shlu32 hj, xor32 _ _ (by omega) (by omega)]
  rcases xor_pow j x with e | ⟨e1, e⟩ <;> rcases pow_cases hj with ⟨h1, h2, h3⟩ | ⟨i, h1, h2, h3, h4⟩
  all_goals first
    | exact ⟨_, ((x ^^^ 2 ^ j : Nat) : Int) / 65536 + ((x ^^^ 2 ^ j : Nat) : Int) % 65536 - ((x : Int) / 65536 + (x : Int) % 65536), rfl, ⟨by omega, by omega⟩, by omega, by omega⟩
theorem PseudoTcp_ver (a b c : Int) (l : List UInt8) (ha : 0 ≤ a ∧ a ≤ 4294967295) (hb : 0 ≤ b ∧ b ≤ 4294967295) (hc : 0 ≤ c ∧ c ≤ 4294967295) (h : 18 ≤ l.length) :
    pcheck 6 a b l = (pnum 6 a b (put2 l 16 0), true) ∧ pfill 6 a b l = (put2 l 16 (pnum 6 a b (put2 l 16 0)), true) ∧ pverify 6 c b l = if psum 6 c b l = 65535 then 0 else 7 := by
  have hz : zeroed 6 l = (put2 l 16 0, true) := by
    unfold zeroed; rw [cov_six]; exact set_put2 (k := 16) h (by decide) (by decide)
  have hk : ∀ x, pcheck 6 x b l = (pnum 6 x b (put2 l 16 0), true) := by
    intro x
    unfold pcheck; rw [hz, if_pos ⟨rfl, rfl⟩]
  have hn := pnum_bounds (p := 6) (s := put2 l 16 0) rfl ha hb
  refine ⟨hk a, ?_, ?_⟩
  · unfold pfill; rw [hk a, if_pos rfl]; exact set_put2 (k := 16) h hn.1 hn.2
  · unfold pverify
    rw [if_pos (show (place 6).2 = true from rfl), hk c, if_pos rfl, cov_six]
    by_cases e : psum 6 c b l = 65535
    · rw [if_pos (Or.inr e), if_pos e]
    · rw [if_neg (fun x => x.elim (fun y => absurd y.1 (by decide)) e), if_neg e]
theorem PseudoTcp_j (a b : Int) (s : ByteArray) (n : Int) (t : ByteArray) (c : Int) (ha : 0 ≤ a ∧ a ≤ 4294967295) (hb : 0 ≤ b ∧ b ≤ 4294967295) (hn : 0 ≤ n ∧ n ≤ 255) (h : 18 ≤ (bl s).length) (h2 : (bl s).length ≤ 300)
    (hc : c = pnum 6 a b (put2 (bl s) 16 0)) (ht : t = lb (put2 (bl s) 16 c)) : weighbridgelaw08_PseudoTcp.j0 1 a b s n true t c false = some true := by
  obtain ⟨l, hl⟩ : ∃ l, bl s = l := ⟨_, rfl⟩
  have hs : s = lb l := by rw [← hl, lb_bl]
  rw [hl] at h h2 hc ht
  have hcb := pnum_bounds (p := 6) (s := put2 l 16 0) rfl ha hb
  rw [← hc] at hcb
  have htl : (put2 l 16 c).length = l.length := put2_length h
  have x1 : (lb (put2 l 16 c)).extract 0 16 = (lb l).extract 0 16 := bl_inj (by rw [bl_extract, bl_extract, bl_lb, bl_lb, List.drop_zero, List.drop_zero]; exact put2_take (k := 16) h)
  have x2 : (lb (put2 l 16 c)).extract 18 (put2 l 16 c).length = (lb l).extract 18 l.length := bl_inj (by
    rw [bl_extract, bl_extract, bl_lb, bl_lb, List.take_of_length_le (Nat.le_refl _), List.take_of_length_le (Nat.le_refl _)]; exact put2_drop (k := 16) h)
  obtain ⟨j, hj⟩ : ∃ j : Nat, n % 32 = (j : Int) := ⟨(n % 32).toNat, by omega⟩
  obtain ⟨a', d, e1, e2, e3, e4⟩ := other_addr ha (show j < 32 by omega)
  have hw : Go.bits .or .i64 (wrap64 (wrap64 (bt (lb (put2 l 16 c)) 16) * 256)) (wrap64 (bt (lb (put2 l 16 c)) 17)) = c := word_bytes (l := l) (k := 16) (n := c) h hcb.1 hcb.2
  have v1 : psum 6 a b (put2 l 16 c) = 65535 := by rw [hc]; exact psum_filled rfl ha hb (by decide) h
  have v2 : psum 6 a' b (put2 l 16 c) ≠ 65535 := by
    have w1 := wsum_bounds (wl (put2 l 16 c))
    unfold psum fold16 hsum at v1 ⊢
    (repeat' split) <;> (split at v1 <;> omega)
  have t1 := (PseudoTcp_ver a b a (put2 l 16 c) ha hb ha (by omega)).2.2
  have t2 := (PseudoTcp_ver a b a' (put2 l 16 c) ha hb e2 (by omega)).2.2
  rw [if_pos v1] at t1
  rw [if_neg v2] at t2
  simp only [weighbridgelaw08_PseudoTcp.j0]
  subst ht hs
  rw [if_neg (by decide), if_pos trivial, if_pos (by rw [lb_size]; omega), if_pos (by rw [lb_size]; omega), if_pos (hw.trans (w64 (by omega) (by omega)).symm), if_pos (by decide), if_pos (by rw [lb_size]; omega), if_pos (by rw [lb_size]; omega), x1, if_pos rfl, if_pos (by rw [lb_size]; omega), if_pos (by rw [lb_size]; omega),
    lb_size, lb_size, x2, if_pos rfl, pseudo_Verify_eq (by decide) ha hb (by rw [lb_size]; omega), Option.bind_some, bl_lb, t1, if_pos rfl, tm 32 hn.1, hj, if_pos (by omega), e1, pseudo_Verify_eq (by decide) e2 hb (by rw [lb_size]; omega), Option.bind_some, bl_lb, t2]
  rfl
theorem PseudoTcp : weighbridgelaw08_PseudoTcp.Pure := by
  intro a b s n w0 w1 hs w3
  have b0 := wf_u32 w0
  have b1 := wf_u32 w1
  have b3 := wf_u8 w3
  refine ⟨1, ?_⟩
  unfold weighbridgelaw08_PseudoTcp.f
  obtain ⟨q, hq, hq1, hq2, hq3⟩ := mn_cut s 280
  have hz : (strOfNums (List.replicate 20 0)).size = 20 := by rw [strOfNums_size, List.length_replicate]
  rw [examples_true, Option.bind_some, if_pos rfl, if_pos (by decide), Option.bind_some, show (280 : Int) = ((280 : Nat) : Int) from rfl, hq, if_pos (by omega), if_pos (by omega), if_pos (by omega)]
  obtain ⟨S, hS⟩ : ∃ S, strOfNums (List.replicate 20 0) ++ s.extract 0 ((q : Int)).toNat = S := ⟨_, rfl⟩
  have hSl : (bl S).length = 20 + q := by rw [← hS, bl_length, ByteArray.size_append, hz, hq3]
  have hSz : S.size = 20 + q := by rw [← bl_length]; exact hSl
  obtain ⟨v1, v2, _⟩ := PseudoTcp_ver a b a (bl S) b0 b1 b0 (by omega)
  rw [hS, pseudo_Fill_eq (by decide) b0 b1 (by omega), Option.bind_some, pseudo_Check_eq (by decide) b0 b1 (by omega), Option.bind_some, v1, v2, if_pos rfl, if_pos rfl]
  have hb : ((((lb (put2 (bl S) 16 (pnum 6 a b (put2 (bl S) 16 0)))).size : Nat) : Int) != (S.size : Int)) = false := by
    rw [lb_size, put2_length (by omega), bl_length]; exact bne_self_eq_false _
  show weighbridgelaw08_PseudoTcp.j0 1 a b S n true (lb (put2 (bl S) 16 (pnum 6 a b (put2 (bl S) 16 0)))) (pnum 6 a b (put2 (bl S) 16 0)) (((lb (put2 (bl S) 16 (pnum 6 a b (put2 (bl S) 16 0)))).size : Int) != (S.size : Int)) = some true
  rw [hb]
  exact PseudoTcp_j a b S n _ _ b0 b1 b3 (by omega) (by omega) rfl rfl

end Go.Proofs.Ytpjimpdfjacnoaa.Pure
