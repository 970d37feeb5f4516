/- Just the life, the addresses, the ports and the checks of a packet are others; a UDP check that is 0 stays 0, and none becomes 0. -/
import Derived.Test.YtfnjohklmpiboaaPr26
import Derived.Test.YtfnjohklmpiboaaLem
import Derived.Test.YtfnjohklmpiboaaTrn
set_option linter.unusedVariables false
set_option linter.unusedSimpArgs false
namespace Go.Proofs.Ytfnjohklmpiboaa.Pure
open Go.RowKit Go.Proofs.Ytfnjohklmpiboaa.Pr Go.Proofs.Ytfnjohklmpiboaa.Sp Go.Proofs.Ytfnjohklmpiboaa.Lem Go.Proofs.YtfnjohklmpiboaaW.PrintWords Go.Proofs.YtfnjohklmpiboaaW.PrintLast Go.Proofs.YtfnjohklmpiboaaW.PrintMore

open Go.Proofs.Ytfnjohklmpiboaa.Frm Go.Proofs.Ytfnjohklmpiboaa.Trn
theorem same_loop (F G : ByteArray) (at_ : Int) (h0 : G.size = F.size) (hs : 28 ≤ F.size ∧ F.size ≤ 200) (hat : 0 ≤ at_ ∧ at_ ≤ 100)
    (hb : ∀ i : Int, 0 ≤ i → i < F.size → i ≠ 8 → ¬ (10 ≤ i ∧ i < 24) → i ≠ at_ → i ≠ at_ + 1 → bt G i = bt F i)
    (h8 : bt G 8 = (bt F 8 - 1) % 256) : ∀ (n : Nat) (i : Int), 0 ≤ i → i + n = F.size → weighbridgelaw10_PatchSame.l0 (n + 1) true F G at_ i = some true := by
  intro n
  induction n with
  | zero =>
    intro i i0 i1
    unfold weighbridgelaw10_PatchSame.l0
    rw [if_neg (by omega), if_pos rfl, if_pos (by omega), if_pos (by omega), h8, beq_self_eq_true]
  | succ n ih =>
    intro i i0 i1
    have hn := ih (i + 1) (by omega) (by omega)
    unfold weighbridgelaw10_PatchSame.l0
    rw [w64 (n := i + 1) (by omega) (by omega), w64 (n := at_ + 1) (by omega) (by omega), hn, if_pos (by omega)]
    by_cases h1 : i = 8
    · rw [if_pos h1]
    · rw [if_neg h1]
      by_cases h2 : i ≥ 10
      · rw [if_pos h2]
        by_cases h3 : i < 24
        · rw [if_pos h3]
        · rw [if_neg h3]
          by_cases h4 : i = at_
          · rw [if_pos h4]
          · rw [if_neg h4]
            by_cases h5 : i = at_ + 1
            · rw [if_pos h5]
            · rw [if_neg h5, if_pos i0, if_pos (by omega), if_pos (hb i i0 (by omega) h1 (by omega) h4 h5)]
      · rw [if_neg h2]
        by_cases h4 : i = at_
        · rw [if_pos h4]
        · rw [if_neg h4]
          by_cases h5 : i = at_ + 1
          · rw [if_pos h5]
          · rw [if_neg h5, if_pos i0, if_pos (by omega), if_pos (hb i i0 (by omega) h1 (by omega) h4 h5)]
theorem bt_eq {F G : List UInt8} {i : Nat} {x : UInt8} (h : F[i]? = some x) : bt (lb F) (i : Int) = (x.toNat : Int) := by
  have hl : i < F.length := by
    rcases Nat.lt_or_ge i F.length with h1 | h1
    · exact h1
    · rw [List.getElem?_eq_none h1] at h; cases h
  rw [bt_bl (lb F) (i : Int) (by rw [lb_size]; omega)]
  have : (bl (lb F))[((i : Int)).toNat]'(by rw [bl_lb]; omega) = x := by
    have e : F[i]'hl = x := by rw [List.getElem?_eq_getElem hl] at h; exact Option.some.inj h
    simp only [bl_lb, Int.toNat_natCast]; exact e
  rw [this]
theorem PatchSame : weighbridgelaw10_PatchSame.Pure := by
  intro k s d sp dp fl tt b z x y u v a c w0 w1 w2 w3 w4 w5 w6 wb w9 w10 q1 q2 q3 q4
  have b0 := wf_u8 w0
  have b1 := wf_u32 w1
  have b2 := wf_u32 w2
  have b3 := wf_u16 w3
  have b4 := wf_u16 w4
  have b5 := wf_u8 w5
  have b6 := wf_u8 w6
  have b9 := wf_u32 w9
  have b10 := wf_u32 w10
  have c1 := wf_u32 q1
  have c2 := wf_u32 q2
  have c3 := wf_u16 q3
  have c4 := wf_u16 q4
  obtain ⟨T, hT, t0, t1⟩ : ∃ T, mx tt 2 = T ∧ 2 ≤ T ∧ T ≤ 255 := ⟨_, rfl, by unfold mx; split <;> omega, by unfold mx; split <;> omega⟩
  obtain ⟨K, hK, k0, k1⟩ : ∃ K, k % 2 = K ∧ 0 ≤ K ∧ K < 2 := ⟨_, rfl, by omega, by omega⟩
  have hk4 : K % 4 < 2 := by omega
  have hl0 := frame_plain_len (k := K) (t := bl b) (z := z) (f := x) (g := y) (tt := T) b1 b2 b3 b4 b5 ⟨by omega, t1⟩ hk4
  have hl1 := frame_plain_len (k := K) (t := bl b) (z := z) (f := x) (g := y) (tt := T - 1) c1 c2 c3 c4 b5 ⟨by omega, by omega⟩ hk4
  have hm : ((bl b).take 40).length ≤ 40 := by rw [List.length_take]; omega
  have hq : 8 ≤ (if protoOf K = 6 then 20 else 8) + ((bl b).take 40).length ∧ (if protoOf K = 6 then 20 else 8) + ((bl b).take 40).length ≤ 60 := by split <;> omega
  have p1 := patchPlain_frame (k := K) (t := bl b) (z := z) (f := x) (g := y) b1 b2 b3 b4 b5 (show 2 ≤ T ∧ T ≤ 255 from ⟨by omega, t1⟩) c1 c2 c3 c4 hk4 []
  rw [List.append_nil] at p1
  have f0 := frame_plain (k := K) (t := bl b) (z := z) (u := x) (v := y) (tt := T) b1 b2 b3 b4 b5 ⟨by omega, t1⟩ hk4
  have f1 := frame_plain (k := K) (t := bl b) (z := z) (u := x) (v := y) (tt := T - 1) c1 c2 c3 c4 b5 ⟨by omega, by omega⟩ hk4
  refine ⟨(frame K s d sp dp fl T (bl b) z x y).length + 3, ?_⟩
  unfold weighbridgelaw10_PatchSame.f
  rw [show weighbridgelaw10_examples.f = some true from rfl, Option.bind_some, if_pos rfl, hT, tm 2 b0.1, hK, w64 (n := a) (by omega) (by omega), w64 (n := c) (by omega) (by omega), weighbridgelaw10_Make_frame_eq ⟨k0, by omega⟩ b1 b2 b3 b4 b5 ⟨by omega, t1⟩ (by omega) b9 b10, Option.bind_some, patch_Plain_eq (by rw [lb_size]; omega) c1 c2, bl_lb, p1, Option.bind_some]
  simp only
  rw [if_pos trivial, if_pos (by rw [lb_size, lb_size, hl0, hl1])]
  generalize frame K s d sp dp fl T (bl b) z x y = F at *
  generalize frame K u v a c fl (T - 1) (bl b) z x y = G at *
  have hGF : G.length = F.length := by omega
  have hB : ∀ (at_ : Int), at_ = (if K = 1 then 26 else 36) → ∀ i : Int, 0 ≤ i → i < (lb F).size → i ≠ 8 → ¬ (10 ≤ i ∧ i < 24) → i ≠ at_ → i ≠ at_ + 1 → bt (lb G) i = bt (lb F) i := by
    intro at_ ha i i0 i1 h8 h10 h11 h12
    rw [lb_size] at i1
    obtain ⟨j, rfl⟩ : ∃ j : Nat, i = (j : Int) := ⟨i.toNat, by omega⟩
    have hj : j < F.length := by omega
    have hP : ((if protoOf K = 6 then 36 else 26 : Nat) : Int) = at_ := by
      subst ha
      unfold protoOf
      by_cases h1 : K = 1
      · subst h1; rfl
      · obtain rfl : K = 0 := by omega
        rfl
    have hs : G[j]? = F[j]? := by
      rw [f0, f1]
      exact same_F (protoOf_or K) (by omega) (by omega) (by omega) (by omega)
    rw [bt_eq (F := F) (G := F) (List.getElem?_eq_getElem hj), bt_eq (F := G) (G := F) (hs.trans (List.getElem?_eq_getElem hj))]
  have h8 : bt (lb G) 8 = (bt (lb F) 8 - 1) % 256 := by
    have g8 : G[8]? = some (UInt8.ofNat ((T - 1) % 256).toNat) := by rw [f1]; exact ttl_F
    have f8 : F[8]? = some (UInt8.ofNat (T % 256).toNat) := by rw [f0]; exact ttl_F
    rw [show (8 : Int) = ((8 : Nat) : Int) from rfl, bt_eq (F := F) (G := F) f8, bt_eq (F := G) (G := F) g8, ofNat_mod, ofNat_mod]; omega
  have hL := same_loop (lb F) (lb G)
  rw [lb_size, lb_size] at hL
  have hd : decide (((lb G).size : Int) < 28) = false := decide_eq_false (by rw [lb_size]; omega)
  rw [hd, show F.length + 3 = F.length + 1 + 1 + 1 from rfl]
  rw [weighbridgelaw10_PatchSame.j0]
  rw [if_neg (by decide)]
  by_cases h1 : K = 1
  · have hc : ((lb G).extract 26 28).toList = (G.take 28).drop 26 := by rw [toL, bl_extract, bl_lb]
    have hz : ((G.take 28).drop 26 == ([0, 0] : List UInt8)) = z := by
      subst h1
      rw [f1]
      exact check_U (T := 0) (ck := 0) (u := fl % 64) (v := 0) c1 c2
    rw [if_pos h1, if_pos (by decide), if_pos (by rw [lb_size]; omega), hc, hz, if_neg (by simp)]
    unfold weighbridgelaw10_PatchSame.j1
    exact hL 26 hGF ⟨by omega, by omega⟩ (by decide) (fun i i0 i1 => hB 26 (by rw [if_pos h1]) i i0 (by rw [lb_size]; exact i1)) h8 F.length 0 (by decide) (by omega)
  · rw [if_neg h1]
    unfold weighbridgelaw10_PatchSame.j1
    exact hL 36 hGF ⟨by omega, by omega⟩ (by decide) (fun i i0 i1 => hB 36 (by rw [if_neg h1]) i i0 (by rw [lb_size]; exact i1)) h8 F.length 0 (by decide) (by omega)

end Go.Proofs.Ytfnjohklmpiboaa.Pure
