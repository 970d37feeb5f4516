/- Options that are right are right with others behind, but an end; one that says less than two bytes, or more than there are, is none. -/
import Derived.Test.YthdaldicdhpnoaaPr14
import Derived.Test.YthdaldicdhpnoaaLem
set_option linter.unusedVariables false
set_option linter.unusedSimpArgs false
namespace Go.Proofs.Ythdaldicdhpnoaa.Pure
open Go.RowKit Go.Proofs.Ythdaldicdhpnoaa.Pr Go.Proofs.Ythdaldicdhpnoaa.Sp Go.Proofs.Ythdaldicdhpnoaa.Lem Go.Proofs.YthdaldicdhpnoaaW.PrintWords Go.Proofs.YthdaldicdhpnoaaW.PrintLast Go.Proofs.YthdaldicdhpnoaaW.PrintMore

theorem examples_true : weighbridgelaw04_examples.f = some true := by kernel_rfl
/-- one option of a kind k and a length l -/
def oneOpt (k l : Nat) : List UInt8 := UInt8.ofNat k :: UInt8.ofNat l :: List.replicate (l - 2) 0
theorem oneOpt_length {k l : Nat} (h : 2 ≤ l) : (oneOpt k l).length = l := by unfold oneOpt; simp only [List.length_cons, List.length_replicate]; omega
theorem kind_ne {k : Nat} (h : 2 ≤ k ∧ k ≤ 255) : UInt8.ofNat k ≠ 0 ∧ UInt8.ofNat k ≠ 1 := by
  have e : (UInt8.ofNat k).toNat = k := by rw [UInt8.toNat_ofNat']; omega
  constructor
  · intro hh; rw [hh] at e; have : (0 : UInt8).toNat = 0 := rfl; omega
  · intro hh; rw [hh] at e; have : (1 : UInt8).toNat = 1 := rfl; omega
theorem oneOpt_step {k l : Nat} (hk : 2 ≤ k ∧ k ≤ 255) (hl : 2 ≤ l ∧ l ≤ 255) (r : List UInt8) : optsOk (oneOpt k l ++ r) = optsOk r := by
  have el : (UInt8.ofNat l).toNat = l := by rw [UInt8.toNat_ofNat']; omega
  have h := kind_ne hk
  have hlen := oneOpt_length (k := k) hl.1
  unfold oneOpt at hlen ⊢
  rw [List.cons_append, List.cons_append, optsOk_step h.1 h.2 (by rw [el, List.length_append, List.length_replicate]; omega), el, ← List.cons_append, ← List.cons_append, List.drop_left' hlen]
/-- a 1, and so many of them -/
def many (k l : Nat) : Nat → List UInt8
  | 0 => [1]
  | n + 1 => many k l n ++ oneOpt k l
theorem many_length {k l : Nat} (h : 2 ≤ l) : ∀ n, (many k l n).length = 1 + n * l
  | 0 => by simp [many]
  | n + 1 => by unfold many; rw [List.length_append, many_length h n, oneOpt_length h, Nat.succ_mul]; omega
theorem many_step {k l : Nat} (hk : 2 ≤ k ∧ k ≤ 255) (hl : 2 ≤ l ∧ l ≤ 255) : ∀ n r, optsOk (many k l n ++ r) = optsOk r
  | 0, r => rfl
  | n + 1, r => by
    unfold many
    rw [List.append_assoc, many_step hk hl n, oneOpt_step hk hl]
theorem cut_bad {k l : Nat} (hk : 2 ≤ k ∧ k ≤ 255) (hl : 2 ≤ l ∧ l ≤ 255) : optsOk ((oneOpt k l).take (l - 1)) = false := by
  have el : (UInt8.ofNat l).toNat = l := by rw [UInt8.toNat_ofNat']; omega
  have h := kind_ne hk
  unfold oneOpt
  obtain ⟨m, rfl⟩ : ∃ m, l = m + 2 := ⟨l - 2, by omega⟩
  match m with
  | 0 => exact optsOk_bare h.1 h.2
  | m + 1 =>
    show optsOk (UInt8.ofNat k :: UInt8.ofNat (m + 1 + 2) :: (List.replicate (m + 1 + 2 - 2) 0).take m) = false
    exact optsOk_bad h.1 h.2 (by rw [el, List.length_take, List.length_replicate]; omega)
theorem len_one {k : Nat} (hk : 2 ≤ k ∧ k ≤ 255) : optsOk [UInt8.ofNat k, 1] = false := by
  have h := kind_ne hk
  exact optsOk_bad h.1 h.2 (Or.inl (by decide))
theorem options_end (k l : Nat) (hk : 2 ≤ k ∧ k ≤ 255) (hl : 2 ≤ l ∧ l ≤ 40) (s : ByteArray) (hs : s.size ≤ 140737488351232) (c : Int) (m : Nat) (hm : m ≤ 3) (hc : Int.tmod c 4 = (m : Int)) (q : Nat) :
    weighbridgelaw04_Ip4Options.l0 (q + 1) c s true (k : Int) (lb (oneOpt k l)) (lb (many k l m)) (m : Int) = some true := by
  have h1 := oneOpt_length (k := k) (l := l) hl.1
  have hlm := many_length (k := k) (l := l) hl.1 m
  have hmb : (many k l m).length ≤ 121 := by
    rw [hlm]
    have : m * l ≤ 3 * 40 := Nat.mul_le_mul hm (by omega)
    omega
  have hl' : 2 ≤ l ∧ l ≤ 255 := by omega
  have o1 : optsOk (oneOpt k l) = true := by
    have := oneOpt_step hk hl' []
    rw [List.append_nil] at this; rw [this]; rfl
  rw [weighbridgelaw04_Ip4Options.l0, hc, w64 (n := (m : Int)) (by omega) (by omega), if_neg (by omega), if_pos rfl, if_pos (by rw [lb_size, lb_size]; omega), lb_append, ip4_OptsRight_eq (by rw [lb_size, List.length_append]; omega), Option.bind_some, bl_lb, many_step hk hl', if_pos o1, if_pos (by rw [lb_size]; omega), show (⟨#[0]⟩ : ByteArray) = lb [0] from rfl, lb_append, if_pos (by rw [lb_size, List.length_append]; simp; omega)]
  have e3 : lb (many k l m ++ [0]) ++ s = lb (many k l m ++ 0 :: bl s) := bl_inj (by rw [bl_append, bl_lb, bl_lb]; simp)
  have hb := bl_length s
  rw [e3, ip4_OptsRight_eq (by rw [lb_size, List.length_append, List.length_cons]; omega), Option.bind_some, bl_lb, many_step hk hl', if_pos (by rw [optsOk_end]), lb_size, h1, w64 (n := (l : Int) - 1) (by omega) (by omega), if_pos (by omega), if_pos (by omega)]
  have e4 : (lb (oneOpt k l)).extract 0 ((l : Int) - 1).toNat = lb ((oneOpt k l).take (l - 1)) := bl_inj (by rw [bl_extract, bl_lb, bl_lb, List.drop_zero, show ((l : Int) - 1).toNat = l - 1 by omega])
  rw [e4, if_pos (by rw [lb_size, lb_size, List.length_take]; omega), lb_append, ip4_OptsRight_eq (by rw [lb_size, List.length_append, List.length_take]; omega), Option.bind_some, bl_lb, many_step hk hl', cut_bad hk hl', if_neg (by decide), Option.bind_some]
  have e5 : strOfNums [(k : Int) % 256, 1] = lb [UInt8.ofNat k, 1] := by
    refine bl_inj ?_
    rw [bl_lb]
    show [UInt8.ofNat ((k : Int) % 256).toNat, UInt8.ofNat (1 : Int).toNat] = _
    rw [show ((k : Int) % 256).toNat = k by omega]; rfl
  have e6 : strOfNums [(k : Int) % 256] = lb [UInt8.ofNat k] := by
    refine bl_inj ?_
    rw [bl_lb]
    show [UInt8.ofNat ((k : Int) % 256).toNat] = _
    rw [show ((k : Int) % 256).toNat = k by omega]
  have hkn := kind_ne hk
  rw [e5, if_pos (by rw [lb_size, lb_size]; simp; omega), lb_append, ip4_OptsRight_eq (by rw [lb_size, List.length_append]; simp; omega), Option.bind_some, bl_lb, many_step hk hl', len_one hk, if_neg (by decide), Option.bind_some, e6, if_pos (by rw [lb_size, lb_size]; simp; omega), lb_append, ip4_OptsRight_eq (by rw [lb_size, List.length_append]; simp; omega), Option.bind_some, bl_lb, many_step hk hl', optsOk_bare hkn.1 hkn.2]
  rfl
theorem options_loop (k l : Nat) (hk : 2 ≤ k ∧ k ≤ 255) (hl : 2 ≤ l ∧ l ≤ 40) (s : ByteArray) (hs : s.size ≤ 140737488351232) (c : Int) (m : Nat) (hm : m ≤ 3) (hc : Int.tmod c 4 = (m : Int)) : ∀ (n i : Nat), i + n = m → ∀ q, n + 1 ≤ q →
    weighbridgelaw04_Ip4Options.l0 q c s true (k : Int) (lb (oneOpt k l)) (lb (many k l i)) (i : Int) = some true := by
  intro n
  induction n with
  | zero =>
    intro i hi q hq
    obtain ⟨q, rfl⟩ : ∃ k', q = k' + 1 := ⟨q - 1, by omega⟩
    obtain rfl : i = m := by omega
    exact options_end k l hk hl s hs c i hm hc q
  | succ n ih =>
    intro i hi q hq
    obtain ⟨q, rfl⟩ : ∃ k', q = k' + 1 := ⟨q - 1, by omega⟩
    have := ih (i + 1) (by omega) q (by omega)
    rw [show (((i + 1 : Nat)) : Int) = (i : Int) + 1 by omega] at this
    have h1 := oneOpt_length (k := k) (l := l) hl.1
    have hlm := many_length (k := k) (l := l) hl.1 i
    have hmb : (many k l i).length ≤ 121 := by
      rw [hlm]
      have : i * l ≤ 3 * 40 := Nat.mul_le_mul (by omega) (by omega)
      omega
    rw [weighbridgelaw04_Ip4Options.l0, hc, w64 (n := (m : Int)) (by omega) (by omega), if_pos (by omega), if_pos (by rw [lb_size, lb_size]; omega), lb_append, w64 (n := (i : Int) + 1) (by omega) (by omega)]
    exact this
theorem Ip4Options : weighbridgelaw04_Ip4Options.Pure := by
  intro a b c s wa wb wc ws
  have ba := wf_u8 wa
  have bb := wf_u8 wb
  have bc := wf_u8 wc
  obtain ⟨k, hk⟩ : ∃ k : Nat, 2 + a % 254 = (k : Int) := ⟨(2 + a % 254).toNat, by omega⟩
  obtain ⟨l, hl⟩ : ∃ l : Nat, 2 + b % 39 = (l : Int) := ⟨(2 + b % 39).toNat, by omega⟩
  obtain ⟨m, hm⟩ : ∃ m : Nat, c % 4 = (m : Int) := ⟨(c % 4).toNat, by omega⟩
  refine ⟨m + 1, ?_⟩
  unfold weighbridgelaw04_Ip4Options.f
  rw [examples_true, Option.bind_some, if_pos rfl, w64 (n := a) (by omega) (by omega), tm 254 ba.1, tm 39 bb.1, w64 (n := 2 + a % 254) (by omega) (by omega), w64 (n := b % 39) (by omega) (by omega), w64 (n := 2 + b % 39) (by omega) (by omega), hk, hl, w64 (n := (l : Int) - 2) (by omega) (by omega), Option.bind_some, if_pos (by omega), if_pos (by omega), Option.bind_some]
  have e1 : strOfNums [(k : Int) % 256, (l : Int) % 256] ++ strOfNums (List.replicate ((l : Int) - 2).toNat 0) = lb (oneOpt k l) := by
    refine bl_inj ?_
    rw [bl_append, bl_lb]
    show [UInt8.ofNat ((k : Int) % 256).toNat, UInt8.ofNat ((l : Int) % 256).toNat] ++ (List.replicate ((l : Int) - 2).toNat (0 : Int)).map (fun n => UInt8.ofNat n.toNat) = _
    rw [show ((k : Int) % 256).toNat = k by omega, show ((l : Int) % 256).toNat = l by omega, show ((l : Int) - 2).toNat = l - 2 by omega, List.map_replicate]; rfl
  rw [if_pos (by rw [strOfNums_size, strOfNums_size, List.length_replicate]; simp; omega), e1]
  exact options_loop k l (by omega) (by omega) s ws c m (by omega) (by rw [tm 4 bc.1, hm]) m 0 (by omega) (m + 1) (by omega)

end Go.Proofs.Ythdaldicdhpnoaa.Pure
