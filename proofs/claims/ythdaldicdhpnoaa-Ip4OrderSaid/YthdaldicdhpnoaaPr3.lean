-- trimmed by trims.py
-- Written by a program of the session (wip/tools) out of the translation, over the kit's print; with pieces of the session's own.
import Derived.Test.YthdaldicdhpnoaaPr0
import Derived.Test.YthdaldicdhpnoaaPr4
import Derived.Test.YthdaldicdhpnoaaPr5
namespace Go.Proofs.Ythdaldicdhpnoaa.Pr
open Go.RowKit Go.Proofs.YthdaldicdhpnoaaW.PrintWords Go.Proofs.YthdaldicdhpnoaaW.PrintLast Go.Proofs.YthdaldicdhpnoaaW.PrintMore
attribute [local go_sem] max2_int min2_int max_two min_two max_three min_three max_four min_four   -- for this text's walks alone
set_option linter.unusedVariables false
set_option linter.unusedSimpArgs false
open Go.Proofs.Ythdaldicdhpnoaa.Sp
/-! ### ip4_OptsRight_p: function 16 -/
def ip4_OptsRight_p.l0 : Nat → ByteArray → Option (Bool)
 | 0, _ => none
 | k + 1, x0 => if x0.toList = ([] : List UInt8) then (some true) else (if 0 < (x0.size : Int) then (if (bt x0 0) = 0 then (some true) else (if (bt x0 0) = 1 then (if 1 ≤ (x0.size : Int) then (ip4_OptsRight_p.l0 k (x0.extract 1 x0.size)) else (none)) else (if (x0.size : Int) < 2 then (some false) else (if 1 < (x0.size : Int) then (if (bt x0 1) < 2 then (some false) else (if (wrap64 (bt x0 1)) > (x0.size : Int) then (some false) else (if 0 ≤ (wrap64 (bt x0 1)) then (if (wrap64 (bt x0 1)) ≤ (x0.size : Int) then (ip4_OptsRight_p.l0 k (x0.extract ((wrap64 (bt x0 1)) : Int).toNat x0.size)) else (none)) else (none)))) else (none))))) else (none))
def ip4_OptsRight_p.f (k : Nat) (a0 : ByteArray) : Option (Bool) := ip4_OptsRight_p.l0 k a0
theorem ip4_OptsRight_p.mono_l : ∀ k, (∀ y0, LeO (ip4_OptsRight_p.l0 k y0) (ip4_OptsRight_p.l0 (k + 1) y0))
 | 0 => fun _ r h => by simp [ip4_OptsRight_p.l0] at h
 | k + 1 => by
  have ih0 := ip4_OptsRight_p.mono_l k
  ·intro y0
   unfold ip4_OptsRight_p.l0
   repeat' first
   | (with_reducible exact ih0 _)
   | (with_reducible exact LeO.refl _)
   | (with_reducible exact LeO.none _)
   | (with_reducible refine LeO.ite ?_ ?_)
   | (with_reducible refine LeO.bind ?_ (fun _ => ?_))
   | exact ih0 _
   | exact LeO.none _
   | refine LeO.ite ?_ ?_
   | refine LeO.bind ?_ (fun _ => ?_)
theorem ip4_OptsRight_p.mono : ∀ a0 k, LeO (ip4_OptsRight_p.f k a0) (ip4_OptsRight_p.f (k + 1) a0) := by
 intro a0 k
 have ih0 := ip4_OptsRight_p.mono_l k
 unfold ip4_OptsRight_p.f
 repeat' first
   | (with_reducible exact ih0 _)
   | (with_reducible exact LeO.refl _)
   | (with_reducible exact LeO.none _)
   | (with_reducible refine LeO.ite ?_ ?_)
   | (with_reducible refine LeO.bind ?_ (fun _ => ?_))
   | exact ih0 _
   | exact LeO.none _
   | refine LeO.ite ?_ ?_
   | refine LeO.bind ?_ (fun _ => ?_)
set_option maxHeartbeats 8000000 in
set_option maxRecDepth 100000 in
theorem ip4_OptsRight_p.calls (k : Nat) (a0 : ByteArray) (r : Bool) (w : World) (h : ip4_OptsRight_p.f k a0 = some r) :
  Calls Try.prog 16 #[.string a0] w fun e w' => e = .returned (.bool r) ∧ Drawn0 w w' := by
 have H : (ip4_OptsRight_p.l0 k a0) = some r := h
 clear h
 have H' := Aside0.mk H
 clear H
 go_enter Try.func16, Try.ntmps16
 go_wp2
 go_loopg [0] k (fun kq v0 w' => ∃ (x0_1 : ByteArray), v0 = .string x0_1 ∧ Aside0 (ip4_OptsRight_p.l0 kq x0_1 = some r) ∧ Aside0 (kq ≤ k) ∧ Drawn0 w w')
 case atStart => exact ⟨(a0), (by first | rfl | (simp; done) | (simp [*]; done)), H', ⟨Nat.le_refl _⟩, by repeat (first | exact Drawn0.refl _ | apply Drawn0.step)⟩
 case round =>
  clear H'
  try clear c1
  obtain ⟨x0_1, rfl, HA, HK1, ⟨m1, rfl⟩⟩ := hrel
  cases gk with
  | zero => exact absurd HA.out (by simp [ip4_OptsRight_p.l0])
  | succ k1 =>
   have H := HA.out
   clear HA
   simp only [ip4_OptsRight_p.l0] at H
   by_cases c2 : x0_1.toList = ([] : List UInt8)
   ·rw [if_pos c2] at H
    have c2b0 : (x0_1.toList == ([] : List UInt8)) = true := beq_iff_eq.mpr c2
    have c2b1 : (x0_1.toList != ([] : List UInt8)) = false := bne_eq_false_iff_eq.mpr c2
    clear c2
    obtain rfl := Option.some.inj H
    go_wp2
    go_ret
    exact ⟨by first | rfl | (simp; done) | (simp [*]; done), by repeat (first | exact Drawn0.refl _ | apply Drawn0.step)⟩
   ·rw [if_neg c2] at H
    have c2b0 : (x0_1.toList == ([] : List UInt8)) = false := beq_eq_false_iff_ne.mpr c2
    have c2b1 : (x0_1.toList != ([] : List UInt8)) = true := bne_iff_ne.mpr c2
    by_cases c3 : 0 < (x0_1.size : Int)
    ·rw [if_pos c3] at H
     have c3b0 : decide (0 < (x0_1.size : Int)) = true := decide_eq_true c3
     have c3b1 : decide (0 < x0_1.size) = true := decide_eq_true (by omega)
     clear c3
     by_cases c5 : (bt x0_1 0) = 0
     ·rw [if_pos c5] at H
      have c5b0 : ((bt x0_1 0) == 0) = true := beq_iff_eq.mpr c5
      have c5b1 : ((bt x0_1 0) != 0) = false := bne_eq_false_iff_eq.mpr c5
      clear c5
      obtain rfl := Option.some.inj H
      have p4 : 0 ≤ (0 : Int) := (by omega)
      have q4 : 0 < x0_1.size := (by have : (0 : Int) < (x0_1.size : Int) := of_decide_eq_true (by first | (with_reducible assumption) | assumption); omega)
      have hx4 : ∀ h : 0 < x0_1.size, ((x0_1[0]'h).toNat : Int) = bt x0_1 0 := bt_at x0_1 0
      clear p4
      have qi4 : (0 < (x0_1.size : Int)) = True := eq_true (of_decide_eq_true (by first | (with_reducible assumption) | assumption))
      replace q4 := eq_true q4
      go_wp2
      go_ret
      exact ⟨by first | rfl | (simp; done) | (simp [*]; done), by repeat (first | exact Drawn0.refl _ | apply Drawn0.step)⟩
     ·rw [if_neg c5] at H
      have c5b0 : ((bt x0_1 0) == 0) = false := beq_eq_false_iff_ne.mpr c5
      have c5b1 : ((bt x0_1 0) != 0) = true := bne_iff_ne.mpr c5
      by_cases c6 : (bt x0_1 0) = 1
      ·rw [if_pos c6] at H
       have c6b0 : ((bt x0_1 0) == 1) = true := beq_iff_eq.mpr c6
       have c6b1 : ((bt x0_1 0) != 1) = false := bne_eq_false_iff_eq.mpr c6
       clear c6
       by_cases c7 : 1 ≤ (x0_1.size : Int)
       ·rw [if_pos c7] at H
        have c7b0 := eq_true c7
        have c7b1 : decide (1 ≤ (x0_1.size : Int)) = true := decide_eq_true c7
        clear c7
        have H' := Aside0.mk H
        clear H
        have p4 : 0 ≤ (0 : Int) := (by omega)
        have q4 : 0 < x0_1.size := (by have : (0 : Int) < (x0_1.size : Int) := of_decide_eq_true (by first | (with_reducible assumption) | assumption); omega)
        have hx4 : ∀ h : 0 < x0_1.size, ((x0_1[0]'h).toNat : Int) = bt x0_1 0 := bt_at x0_1 0
        clear p4
        have qi4 : (0 < (x0_1.size : Int)) = True := eq_true (of_decide_eq_true (by first | (with_reducible assumption) | assumption))
        replace q4 := eq_true q4
        go_wp2
        go_roundg k1
        case measure => have := HK1.out; omega
        case rel => exact ⟨(x0_1.extract 1 x0_1.size), (by first | rfl | (simp; done) | (congr 2; simp only [ByteArray.size_extract, ByteArray.size_append]; (try have := of_eq_true c7b0); (try unfold wrap64); omega) | (simp only [ByteArray.size_extract, ByteArray.size_append, Nat.sub_zero]; done) | (congr 1; simp only [ByteArray.size_extract, ByteArray.size_append, Nat.sub_zero]; (try have := of_eq_true c7b0); omega) | (simp [*]; done)), H', ⟨by have := HK1.out; omega⟩, by repeat (first | exact Drawn0.refl _ | apply Drawn0.step)⟩
       ·rw [if_neg c7] at H
        exact absurd H (by simp)
      ·rw [if_neg c6] at H
       have c6b0 : ((bt x0_1 0) == 1) = false := beq_eq_false_iff_ne.mpr c6
       have c6b1 : ((bt x0_1 0) != 1) = true := bne_iff_ne.mpr c6
       by_cases c8 : (x0_1.size : Int) < 2
       ·rw [if_pos c8] at H
        have c8b0 : decide ((x0_1.size : Int) < 2) = true := decide_eq_true c8
        have c8b1 : decide (x0_1.size < 2) = true := decide_eq_true (by omega)
        clear c8
        obtain rfl := Option.some.inj H
        have p4 : 0 ≤ (0 : Int) := (by omega)
        have q4 : 0 < x0_1.size := (by have : (0 : Int) < (x0_1.size : Int) := of_decide_eq_true (by first | (with_reducible assumption) | assumption); omega)
        have hx4 : ∀ h : 0 < x0_1.size, ((x0_1[0]'h).toNat : Int) = bt x0_1 0 := bt_at x0_1 0
        clear p4
        have qi4 : (0 < (x0_1.size : Int)) = True := eq_true (of_decide_eq_true (by first | (with_reducible assumption) | assumption))
        replace q4 := eq_true q4
        go_wp2
        go_ret
        exact ⟨by first | rfl | (simp; done) | (simp [*]; done), by repeat (first | exact Drawn0.refl _ | apply Drawn0.step)⟩
       ·rw [if_neg c8] at H
        have c8b0 : decide ((x0_1.size : Int) < 2) = false := decide_eq_false c8
        have c8b1 : decide (x0_1.size < 2) = false := decide_eq_false (by omega)
        clear c8
        by_cases c9 : 1 < (x0_1.size : Int)
        ·rw [if_pos c9] at H
         have c9b0 : decide (1 < (x0_1.size : Int)) = true := decide_eq_true c9
         have c9b1 : decide (1 < x0_1.size) = true := decide_eq_true (by omega)
         clear c9
         by_cases c11 : (bt x0_1 1) < 2
         ·rw [if_pos c11] at H
          have c11b0 : decide ((bt x0_1 1) < 2) = true := decide_eq_true c11
          clear c11
          obtain rfl := Option.some.inj H
          have p4 : 0 ≤ (0 : Int) := (by omega)
          have q4 : 0 < x0_1.size := (by have : (0 : Int) < (x0_1.size : Int) := of_decide_eq_true (by first | (with_reducible assumption) | assumption); omega)
          have hx4 : ∀ h : 0 < x0_1.size, ((x0_1[0]'h).toNat : Int) = bt x0_1 0 := bt_at x0_1 0
          clear p4
          have qi4 : (0 < (x0_1.size : Int)) = True := eq_true (of_decide_eq_true (by first | (with_reducible assumption) | assumption))
          replace q4 := eq_true q4
          have p10 : 0 ≤ (1 : Int) := (by omega)
          have q10 : 1 < x0_1.size := (by have : (1 : Int) < (x0_1.size : Int) := of_decide_eq_true (by first | (with_reducible assumption) | assumption); omega)
          have hx10 : ∀ h : 1 < x0_1.size, ((x0_1[1]'h).toNat : Int) = bt x0_1 1 := bt_at x0_1 1
          clear p10
          have qi10 : (1 < (x0_1.size : Int)) = True := eq_true (of_decide_eq_true (by first | (with_reducible assumption) | assumption))
          replace q10 := eq_true q10
          go_wp2
          go_ret
          exact ⟨by first | rfl | (simp; done) | (simp [*]; done), by repeat (first | exact Drawn0.refl _ | apply Drawn0.step)⟩
         ·rw [if_neg c11] at H
          have c11b0 : decide ((bt x0_1 1) < 2) = false := decide_eq_false c11
          clear c11
          by_cases c13 : (wrap64 (bt x0_1 1)) > (x0_1.size : Int)
          ·rw [if_pos c13] at H
           have c13b0 : decide ((x0_1.size : Int) < (wrap64 (bt x0_1 1))) = true := decide_eq_true c13
           clear c13
           obtain rfl := Option.some.inj H
           have p4 : 0 ≤ (0 : Int) := (by omega)
           have q4 : 0 < x0_1.size := (by have : (0 : Int) < (x0_1.size : Int) := of_decide_eq_true (by first | (with_reducible assumption) | assumption); omega)
           have hx4 : ∀ h : 0 < x0_1.size, ((x0_1[0]'h).toNat : Int) = bt x0_1 0 := bt_at x0_1 0
           clear p4
           have qi4 : (0 < (x0_1.size : Int)) = True := eq_true (of_decide_eq_true (by first | (with_reducible assumption) | assumption))
           replace q4 := eq_true q4
           have p10 : 0 ≤ (1 : Int) := (by omega)
           have q10 : 1 < x0_1.size := (by have : (1 : Int) < (x0_1.size : Int) := of_decide_eq_true (by first | (with_reducible assumption) | assumption); omega)
           have hx10 : ∀ h : 1 < x0_1.size, ((x0_1[1]'h).toNat : Int) = bt x0_1 1 := bt_at x0_1 1
           clear p10
           have qi10 : (1 < (x0_1.size : Int)) = True := eq_true (of_decide_eq_true (by first | (with_reducible assumption) | assumption))
           replace q10 := eq_true q10
           have p12 : 0 ≤ (1 : Int) := (by omega)
           have q12 : 1 < x0_1.size := (by have : (1 : Int) < (x0_1.size : Int) := of_decide_eq_true (by first | (with_reducible assumption) | assumption); omega)
           have hx12 : ∀ h : 1 < x0_1.size, ((x0_1[1]'h).toNat : Int) = bt x0_1 1 := bt_at x0_1 1
           clear p12
           have qi12 : (1 < (x0_1.size : Int)) = True := eq_true (of_decide_eq_true (by first | (with_reducible assumption) | assumption))
           replace q12 := eq_true q12
           go_wp2
           go_ret
           exact ⟨by first | rfl | (simp; done) | (simp [*]; done), by repeat (first | exact Drawn0.refl _ | apply Drawn0.step)⟩
          ·rw [if_neg c13] at H
           have c13b0 : decide ((x0_1.size : Int) < (wrap64 (bt x0_1 1))) = false := decide_eq_false c13
           clear c13
           obtain ⟨ji15, hji15⟩ : ∃ j_ : Int, (wrap64 (bt x0_1 1)) = j_ := ⟨_, rfl⟩
           replace H : (if 0 ≤ (ji15) then (if (ji15) ≤ (x0_1.size : Int) then (ip4_OptsRight_p.l0 k1 (x0_1.extract ((ji15) : Int).toNat x0_1.size)) else (none)) else (none)) = some r := by first | (rw [hji15] at H; exact H) | (simp only [hji15] at H ⊢; exact H)
           (try rw [hji15] at c13b0)
           have hji15w : (IntKind.i64.wrap (bt x0_1 1)) = ji15 := (i64_w _).trans hji15
           by_cases c16 : 0 ≤ (ji15)
           ·rw [if_pos c16] at H
            have c16b0 := eq_true c16
            have c16b1 : decide (0 ≤ (ji15)) = true := decide_eq_true c16
            clear c16
            by_cases c17 : (ji15) ≤ (x0_1.size : Int)
            ·rw [if_pos c17] at H
             have c17b0 := eq_true c17
             have c17b1 : decide ((ji15) ≤ (x0_1.size : Int)) = true := decide_eq_true c17
             clear c17
             have H' := Aside0.mk H
             clear H
             have p4 : 0 ≤ (0 : Int) := (by omega)
             have q4 : 0 < x0_1.size := (by have : (0 : Int) < (x0_1.size : Int) := of_decide_eq_true (by first | (with_reducible assumption) | assumption); omega)
             have hx4 : ∀ h : 0 < x0_1.size, ((x0_1[0]'h).toNat : Int) = bt x0_1 0 := bt_at x0_1 0
             clear p4
             have qi4 : (0 < (x0_1.size : Int)) = True := eq_true (of_decide_eq_true (by first | (with_reducible assumption) | assumption))
             replace q4 := eq_true q4
             have p10 : 0 ≤ (1 : Int) := (by omega)
             have q10 : 1 < x0_1.size := (by have : (1 : Int) < (x0_1.size : Int) := of_decide_eq_true (by first | (with_reducible assumption) | assumption); omega)
             have hx10 : ∀ h : 1 < x0_1.size, ((x0_1[1]'h).toNat : Int) = bt x0_1 1 := bt_at x0_1 1
             clear p10
             have qi10 : (1 < (x0_1.size : Int)) = True := eq_true (of_decide_eq_true (by first | (with_reducible assumption) | assumption))
             replace q10 := eq_true q10
             have p12 : 0 ≤ (1 : Int) := (by omega)
             have q12 : 1 < x0_1.size := (by have : (1 : Int) < (x0_1.size : Int) := of_decide_eq_true (by first | (with_reducible assumption) | assumption); omega)
             have hx12 : ∀ h : 1 < x0_1.size, ((x0_1[1]'h).toNat : Int) = bt x0_1 1 := bt_at x0_1 1
             clear p12
             have qi12 : (1 < (x0_1.size : Int)) = True := eq_true (of_decide_eq_true (by first | (with_reducible assumption) | assumption))
             replace q12 := eq_true q12
             have p14 : 0 ≤ (1 : Int) := (by omega)
             have q14 : 1 < x0_1.size := (by have : (1 : Int) < (x0_1.size : Int) := of_decide_eq_true (by first | (with_reducible assumption) | assumption); omega)
             have hx14 : ∀ h : 1 < x0_1.size, ((x0_1[1]'h).toNat : Int) = bt x0_1 1 := bt_at x0_1 1
             clear p14
             have qi14 : (1 < (x0_1.size : Int)) = True := eq_true (of_decide_eq_true (by first | (with_reducible assumption) | assumption))
             replace q14 := eq_true q14
             go_wp2
             go_roundg k1
             case measure => have := HK1.out; omega
             case rel => exact ⟨(x0_1.extract ((ji15) : Int).toNat x0_1.size), (by first | rfl | (simp; done) | (congr 2; simp only [ByteArray.size_extract, ByteArray.size_append]; (try have := of_eq_true c16b0); (try have := of_eq_true c17b0); (try unfold wrap64); omega) | (simp only [ByteArray.size_extract, ByteArray.size_append, Nat.sub_zero]; done) | (congr 1; simp only [ByteArray.size_extract, ByteArray.size_append, Nat.sub_zero]; (try have := of_eq_true c16b0); (try have := of_eq_true c17b0); omega) | (simp only [← hji15] <;> (first | rfl | simp)) | (simp [*]; done)), H', ⟨by have := HK1.out; omega⟩, by repeat (first | exact Drawn0.refl _ | apply Drawn0.step)⟩
            ·rw [if_neg c17] at H
             exact absurd H (by simp)
           ·rw [if_neg c16] at H
            exact absurd H (by simp)
        ·rw [if_neg c9] at H
         exact absurd H (by simp)
    ·rw [if_neg c3] at H
     exact absurd H (by simp)

theorem below_base {B : Nat} {w w' : World} (h : B ≤ w.heap.size) (hb : Below w.heap.size w w') : Below B w w' := ⟨hb.os, hb.tape, hb.output, hb.size, fun k hk => hb.block k (by omega)⟩
def ip4_OptsRight.f (a0 : ByteArray) : Option Bool := if a0.size ≤ 140737488355328 then some (Sp.optsOk (bl a0)) else none
theorem ip4_OptsRight_eq {a0 : ByteArray} (h : a0.size ≤ 140737488355328) : ip4_OptsRight.f a0 = some (Sp.optsOk (bl a0)) := by unfold ip4_OptsRight.f; exact if_pos h
theorem i4_opts_nil (s : ByteArray) (k : Nat) (e : bl s = []) : ip4_OptsRight_p.l0 (k + 1) s = some (Sp.optsOk (bl s)) := by
 rw [ip4_OptsRight_p.l0, if_pos (by rw [ByteArray.toList_eq]; exact e), e]; rfl
theorem i4_opts_loop : ∀ (n : Nat) (s : ByteArray), s.size ≤ n → n ≤ 140737488355328 → ∀ k, n + 1 ≤ k → ip4_OptsRight_p.l0 k s = some (Sp.optsOk (bl s)) := by
 intro n
 induction n with
 | zero =>
  intro s h1 _ k hk
  obtain ⟨k, rfl⟩ : ∃ k', k = k' + 1 := ⟨k - 1, by omega⟩
  exact i4_opts_nil s k (List.eq_nil_of_length_eq_zero (by rw [bl_length]; omega))
 | succ n ih =>
  intro s h1 h2 k hk
  obtain ⟨k, rfl⟩ : ∃ k', k = k' + 1 := ⟨k - 1, by omega⟩
  have hl := bl_length s
  have ex : ∀ i : Nat, 1 ≤ i → i ≤ s.size → ip4_OptsRight_p.l0 k (s.extract i s.size) = some (Sp.optsOk ((bl s).drop i)) := fun i i1 i2 => by
   rw [ih (s.extract i s.size) (by rw [ByteArray.size_extract]; omega) (by omega) k (by omega), Sp.bl_extract]
   congr 2
   rw [List.take_of_length_le (by omega)]
  rcases e : bl s with _ | ⟨x, r⟩
  ·rw [← e]; exact i4_opts_nil s k e
  ·have hx := i4_bt0 e
   have hs : s.size = r.length + 1 := by rw [← hl, e, List.length_cons]
   have hlt := x.toNat_lt
   rw [ip4_OptsRight_p.l0, if_neg (by rw [ByteArray.toList_eq]; show bl s ≠ []; rw [e]; exact List.cons_ne_nil _ _), if_pos (by omega)]
   by_cases h0 : x = 0
   ·rw [if_pos (by rw [hx, h0]; rfl), h0]; rfl
   ·have n0 : bt s 0 ≠ 0 := by rw [hx]; intro h; exact h0 (UInt8.toNat_inj.1 (by show _ = 0; omega))
    rw [if_neg n0]
    by_cases h3 : x = 1
    ·rw [if_pos (by rw [hx, h3]; rfl), if_pos (by omega), ex 1 (by omega) (by omega), e, h3, Sp.optsOk_one]; rfl
    ·have n1 : bt s 0 ≠ 1 := by rw [hx]; intro h; exact h3 (UInt8.toNat_inj.1 (by show _ = 1; omega))
     rw [if_neg n1]
     rcases r with _ | ⟨y, q⟩
     ·rw [if_pos (by rw [hs]; decide), Sp.optsOk_bare h0 h3]
     ·have hy := i4_bt1 e
      have hyl := y.toNat_lt
      rw [List.length_cons] at hs
      rw [if_neg (by omega), if_pos (by omega), hy]
      by_cases h5 : y.toNat < 2
      ·rw [if_pos (by omega), Sp.optsOk_bad h0 h3 (Or.inl h5)]
      ·rw [if_neg (by omega), wrap_id (n := (y.toNat : Int)) (by omega) (by omega)]
       by_cases h6 : y.toNat > q.length + 2
       ·rw [if_pos (by omega), Sp.optsOk_bad h0 h3 (Or.inr h6)]
       ·rw [if_neg (by omega), if_pos (by omega), if_pos (by omega), Int.toNat_natCast, ex y.toNat (by omega) (by omega), e, ← Sp.optsOk_step h0 h3 (by omega)]
theorem ip4_OptsRight_ev (a0 : ByteArray) (r : Bool) (h : ip4_OptsRight.f a0 = some r) : ∃ k, ip4_OptsRight_p.f k a0 = some r := by
 unfold ip4_OptsRight.f at h
 split at h
 case isFalse => cases h
 case isTrue hs =>
  refine ⟨a0.size + 1, ?_⟩
  rw [← h]
  unfold ip4_OptsRight_p.f
  exact i4_opts_loop a0.size a0 (by omega) hs _ (by omega)
theorem ip4_OptsRight.calls (a0 : ByteArray) (r : Bool) (w : World) (h : ip4_OptsRight.f a0 = some r) :
  Calls Try.prog 16 #[.string a0] w fun e w' => e = .returned (.bool r) ∧ Drawn0 w w' := by
 obtain ⟨k, hk⟩ := ip4_OptsRight_ev a0 _ h
 exact ip4_OptsRight_p.calls k a0 r w hk

/-! ### ip4_Right: function 14 -/
section
attribute [local go_sem] Oper.semAt_some
set_option maxHeartbeats 1000000 in
theorem limits_in (F : Fence) (n : Nat) (hf : F.fn 27) (hro : F.round = none) (h0 h1 h2 h3 h4 h5 h6 h7 : Int) (o : ByteArray) (w : World) :
  CallsIn F n Try.prog 27 #[.agg #[.int .i64 h0, .int .i64 h1, .int .i64 h2, .int .i64 h3, .int .i64 h4, .int .i64 h5, .int .u32 h6, .int .u32 h7, .string o]] w fun e w' => e = .returned (.func (.func 42) #[] #[.pointer (some ⟨w.heap.size, 0, none⟩)]) ∧ w' = w.alloc (.cells #[.int .i64 h0, .int .i64 h1, .int .i64 h2, .int .i64 h3, .int .i64 h4, .int .i64 h5, .int .u32 h6, .int .u32 h7, .string o] 24) := by
 refine callsIn_of_wp Try.func27 rfl hf ?_ hro
 simp only [Try.ntmps27, List.size_toArray, List.length_cons, List.length_nil, Nat.reduceAdd, Nat.reduceSub, Array.replicate_succ, Array.replicate_zero, List.push_toArray, List.append_toArray, List.nil_append, List.cons_append]
 gi_wp2
 go_ret
 exact ⟨rfl, rfl⟩
/-- what limits hands on -/
def limitsOf (h0 h1 h2 h3 h4 h5 : Int) : List (Int × Int) := ([] : List (Int × Int)) ++ [(h0, 255)] ++ [(h4, 255)] ++ [(h5, 255)] ++ [(h1, 65535)] ++ [(h2, 7)] ++ [(h3, 8191)]
set_option maxRecDepth 100000 in
set_option maxHeartbeats 4000000 in
theorem limits1_in (F : Fence) (n : Nat) (hf : F.fn 42) (hro : F.round = none) (hn : 1 ≤ n) (l Bs : Nat) (h0 h1 h2 h3 h4 h5 h6 h7 : Int) (o : ByteArray) (J Jx : List (Int × Int) → World → Prop)
  (hY : ∀ pre x W, J pre W → pre.length < 6 → YieldAt F (n - 1) Try.prog l #[.int .i64 x.1, .int .i64 x.2] W fun e W' =>
   (e = .returned (.bool true) ∧ J (pre ++ [x]) W' ∧ KeepsAt Bs (.cells #[.int .i64 h0, .int .i64 h1, .int .i64 h2, .int .i64 h3, .int .i64 h4, .int .i64 h5, .int .u32 h6, .int .u32 h7, .string o] 24 (0, 0)) W W') ∨ (e = .returned (.bool false) ∧ Jx (pre ++ [x]) W'))
  (W : World) (hB0 : W.heap[Bs]? = some (.cells #[.int .i64 h0, .int .i64 h1, .int .i64 h2, .int .i64 h3, .int .i64 h4, .int .i64 h5, .int .u32 h6, .int .u32 h7, .string o] 24 (0, 0))) (hJ0 : J [] W) :
  CallsIn F n Try.prog 42 #[.func (.yield l) #[] #[], .pointer (some ⟨Bs, 0, none⟩)] W fun e W' => (∃ v, e = .returned v) ∧
   ((∃ ys, ys = limitsOf h0 h1 h2 h3 h4 h5 ∧ J ys W') ∨ (∃ pre, pre <+: limitsOf h0 h1 h2 h3 h4 h5 ∧ Jx pre W')) := by
 refine callsIn_of_wp Try.func42 rfl hf ?_ hro
 simp only [Try.ntmps42, List.size_toArray, List.length_cons, List.length_nil, Nat.reduceAdd, Nat.reduceSub, Array.replicate_succ, Array.replicate_zero, List.push_toArray, List.append_toArray, List.nil_append, List.cons_append]
 -- yield 0
 obtain ⟨fn0, tmps0, assign0, body0, hy0, hR0⟩ := hY ([]) (h0, 255) W hJ0 (by simp)
 have c0 := (blk_cell hB0 0).trans rfl
 have HB0 := Lib.hid (And.intro hB0 hJ0)
 clear hB0 hJ0
 gi_wp2
 refine hR0.mono ?_
 rintro e W1 (⟨rfl, hJ1, hk1⟩ | ⟨rfl, hJx⟩)
 rotate_left
 ·gi_wp2
  repeat (refine ⟨fun f h => (by cases h), ?_⟩; gi_wp2)
  go_end0
  exact ⟨⟨_, rfl⟩, .inr ⟨_, ⟨[(h4, 255), (h5, 255), (h1, 65535), (h2, 7), (h3, 8191)], rfl⟩, hJx⟩⟩
 have hB1 := hk1 HB0.out.1
 clear hk1 HB0 hR0 hy0 c0
 -- yield 1
 obtain ⟨fn1, tmps1, assign1, body1, hy1, hR1⟩ := hY (([] : List (Int × Int)) ++ [((h0, 255) : Int × Int)]) (h4, 255) W1 hJ1 (by simp)
 have c4 := (blk_cell hB1 4).trans rfl
 have HB1 := Lib.hid (And.intro hB1 hJ1)
 clear hB1 hJ1
 gi_wp2
 refine hR1.mono ?_
 rintro e W2 (⟨rfl, hJ2, hk2⟩ | ⟨rfl, hJx⟩)
 rotate_left
 ·gi_wp2
  repeat (refine ⟨fun f h => (by cases h), ?_⟩; gi_wp2)
  go_end0
  exact ⟨⟨_, rfl⟩, .inr ⟨_, ⟨[(h5, 255), (h1, 65535), (h2, 7), (h3, 8191)], rfl⟩, hJx⟩⟩
 have hB2 := hk2 HB1.out.1
 clear hk2 HB1 hR1 hy1 c4
 -- yield 2
 obtain ⟨fn2, tmps2, assign2, body2, hy2, hR2⟩ := hY (([] : List (Int × Int)) ++ [((h0, 255) : Int × Int)] ++ [((h4, 255) : Int × Int)]) (h5, 255) W2 hJ2 (by simp)
 have c5 := (blk_cell hB2 5).trans rfl
 have HB2 := Lib.hid (And.intro hB2 hJ2)
 clear hB2 hJ2
 gi_wp2
 refine hR2.mono ?_
 rintro e W3 (⟨rfl, hJ3, hk3⟩ | ⟨rfl, hJx⟩)
 rotate_left
 ·gi_wp2
  repeat (refine ⟨fun f h => (by cases h), ?_⟩; gi_wp2)
  go_end0
  exact ⟨⟨_, rfl⟩, .inr ⟨_, ⟨[(h1, 65535), (h2, 7), (h3, 8191)], rfl⟩, hJx⟩⟩
 have hB3 := hk3 HB2.out.1
 clear hk3 HB2 hR2 hy2 c5
 -- yield 3
 obtain ⟨fn3, tmps3, assign3, body3, hy3, hR3⟩ := hY (([] : List (Int × Int)) ++ [((h0, 255) : Int × Int)] ++ [((h4, 255) : Int × Int)] ++ [((h5, 255) : Int × Int)]) (h1, 65535) W3 hJ3 (by simp)
 have c1 := (blk_cell hB3 1).trans rfl
 have HB3 := Lib.hid (And.intro hB3 hJ3)
 clear hB3 hJ3
 gi_wp2
 refine hR3.mono ?_
 rintro e W4 (⟨rfl, hJ4, hk4⟩ | ⟨rfl, hJx⟩)
 rotate_left
 ·gi_wp2
  repeat (refine ⟨fun f h => (by cases h), ?_⟩; gi_wp2)
  go_end0
  exact ⟨⟨_, rfl⟩, .inr ⟨_, ⟨[(h2, 7), (h3, 8191)], rfl⟩, hJx⟩⟩
 have hB4 := hk4 HB3.out.1
 clear hk4 HB3 hR3 hy3 c1
 -- yield 4
 obtain ⟨fn4, tmps4, assign4, body4, hy4, hR4⟩ := hY (([] : List (Int × Int)) ++ [((h0, 255) : Int × Int)] ++ [((h4, 255) : Int × Int)] ++ [((h5, 255) : Int × Int)] ++ [((h1, 65535) : Int × Int)]) (h2, 7) W4 hJ4 (by simp)
 have c2 := (blk_cell hB4 2).trans rfl
 have HB4 := Lib.hid (And.intro hB4 hJ4)
 clear hB4 hJ4
 gi_wp2
 refine hR4.mono ?_
 rintro e W5 (⟨rfl, hJ5, hk5⟩ | ⟨rfl, hJx⟩)
 rotate_left
 ·gi_wp2
  repeat (refine ⟨fun f h => (by cases h), ?_⟩; gi_wp2)
  go_end0
  exact ⟨⟨_, rfl⟩, .inr ⟨_, ⟨[(h3, 8191)], rfl⟩, hJx⟩⟩
 have hB5 := hk5 HB4.out.1
 clear hk5 HB4 hR4 hy4 c2
 -- yield 5
 obtain ⟨fn5, tmps5, assign5, body5, hy5, hR5⟩ := hY (([] : List (Int × Int)) ++ [((h0, 255) : Int × Int)] ++ [((h4, 255) : Int × Int)] ++ [((h5, 255) : Int × Int)] ++ [((h1, 65535) : Int × Int)] ++ [((h2, 7) : Int × Int)]) (h3, 8191) W5 hJ5 (by simp)
 have c3 := (blk_cell hB5 3).trans rfl
 have HB5 := Lib.hid (And.intro hB5 hJ5)
 clear hB5 hJ5
 gi_wp2
 refine hR5.mono ?_
 rintro e W6 (⟨rfl, hJ6, hk6⟩ | ⟨rfl, hJx⟩)
 rotate_left
 ·gi_wp2
  repeat (refine ⟨fun f h => (by cases h), ?_⟩; gi_wp2)
  go_end0
  exact ⟨⟨_, rfl⟩, .inr ⟨_, ⟨[], rfl⟩, hJx⟩⟩
 have hB6 := hk6 HB5.out.1
 clear hk6 HB5 hR5 hy5 c3
 have HB := Lib.hid hJ6
 clear hB6 hJ6
 gi_wp2
 go_end0
 exact ⟨⟨_, rfl⟩, .inl ⟨_, rfl, HB.out⟩⟩
end
theorem ip4_list_good {h0 h1 h2 h3 h4 h5 : Int} {o : List UInt8} (h : ∀ p ∈ limitsOf h0 h1 h2 h3 h4 h5, 0 ≤ p.1 ∧ p.1 ≤ p.2) : Sp.ip4Right h0 h1 h2 h3 h4 h5 o = (decide (o.length ≤ 40 ∧ o.length % 4 = 0) && Sp.optsOk o) := by
 have g0 := h (h0, 255) (by simp [limitsOf])
 have g4 := h (h4, 255) (by simp [limitsOf])
 have g5 := h (h5, 255) (by simp [limitsOf])
 have g1 := h (h1, 65535) (by simp [limitsOf])
 have g2 := h (h2, 7) (by simp [limitsOf])
 have g3 := h (h3, 8191) (by simp [limitsOf])
 simp only at g0 g1 g2 g3 g4 g5
 unfold Sp.ip4Right
 rw [decide_eq_true g0, decide_eq_true g1, decide_eq_true g2, decide_eq_true g3, decide_eq_true g4, decide_eq_true g5]
 simp only [Bool.true_and]
theorem ip4_list_bad {h0 h1 h2 h3 h4 h5 : Int} {o : List UInt8} {p : Int × Int} (hp : p ∈ limitsOf h0 h1 h2 h3 h4 h5) (hb : ¬ (0 ≤ p.1 ∧ p.1 ≤ p.2)) : Sp.ip4Right h0 h1 h2 h3 h4 h5 o = false := by
 refine Bool.eq_false_iff.2 fun hr => hb ?_
 obtain ⟨g0, g1, g2, g3, g4, g5, _, _⟩ := Sp.ip4Right_iff.1 hr
 simp only [limitsOf, List.nil_append, List.cons_append, List.mem_cons, List.not_mem_nil, or_false] at hp
 rcases hp with rfl | rfl | rfl | rfl | rfl | rfl
 ·exact g0
 ·exact g4
 ·exact g5
 ·exact g1
 ·exact g2
 exact g3
def goodP (p : Int × Int) : Prop := 0 ≤ p.1 ∧ p.1 ≤ p.2
def allGood (l : List (Int × Int)) : Prop := ∀ p ∈ l, goodP p
def badIn (l : List (Int × Int)) : Prop := ∃ p ∈ l, ¬ goodP p
theorem allGood_nil : allGood [] := fun _ h => absurd h List.not_mem_nil
theorem allGood_snoc {l : List (Int × Int)} {x : Int × Int} (h : allGood l) (hx : goodP x) : allGood (l ++ [x]) := fun p hp => by
 rcases List.mem_append.1 hp with h' | h'
 ·exact h p h'
 ·rw [List.mem_singleton.1 h']; exact hx
theorem badIn_snoc {l : List (Int × Int)} {x : Int × Int} (hx : ¬ goodP x) : badIn (l ++ [x]) := ⟨x, List.mem_append.2 (.inr (List.mem_singleton.2 rfl)), hx⟩
theorem results_cell1 {fn : Func} {p : Tmp} {ty : TypeId} {P : Program} (h : fn.results = #[.cell p ty]) (tmps : Array Value) (w : World) (g : Nat) (v : Value) (d : TypeDesc) (hp : tmps.getD p undef = .pointer (some ⟨g, 0, none⟩)) (hg : w.cell? ⟨g, 0, none⟩ = some v)
  (hd : (match d with | .struct _ | .array _ _ => true | _ => false) = false) (hu : P.underlying ty = some d) : (results fn tmps).run P w = .ok v w := by
 have hp' : tmps[p]?.getD undef = .pointer (some ⟨g, 0, none⟩) := by simpa using hp
 have ha : (isAgg ty).run P w = .ok false w := by
  unfold isAgg
  rw [Sem.run_bind, run_underlying hu w]
  cases d <;> simp_all
 simp only [results, h]
 simp [hp', asAddr, loadVar, ha, hg, Sem.run_bind, Result.andThen]
theorem right_def {W : World} {D b : Nat} {v : Value} {o : Obj} (h : W.heap[D]? = some o) (hne : b ≠ D) : (W.setCell ⟨b, 0, none⟩ v).heap[D]? = some o :=
 (Below.heap_setCell _ _ _ _ (fun e => hne e.symm)).trans h
theorem right_far {W : World} {D b : Nat} {o o' : Obj} (hne : b ≠ D) (h : W.heap[b]? = some o) : (W.putObj D o').heap[b]? = some o := (World.putObj_heap_other (by omega)).trans h
theorem row_kept {W W' : World} {row : Option Nat} {b : Nat} {cs : Array Value} {t : TypeId} {fr : Nat × Nat} (h : W.heap[b]? = some (.cells cs t fr)) (hg : W.grownBy W' row) (hrow : ∀ r, row = some r → ∃ o : Obj, W.heap[r]? = some o ∧ o.isCells = false) : W'.heap[b]? = some (.cells cs t fr) :=
 (grownBy_keeps_cells hg hrow h rfl).trans h
section
attribute [local go_sem] Oper.semAt_some
theorem limits_stops (F : Fence) (n : Nat) (hf : F.fn 42) (hro : F.round = none) (hn : 1 ≤ n) (Bs : Nat) (h0 h1 h2 h3 h4 h5 h6 h7 : Int) (o : ByteArray) (w : World) (hBs : w.heap[Bs]? = some (.cells #[.int .i64 h0, .int .i64 h1, .int .i64 h2, .int .i64 h3, .int .i64 h4, .int .i64 h5, .int .u32 h6, .int .u32 h7, .string o] 24 (0, 0))) :
  SeqStopsK F n Try.prog 42 #[.pointer (some ⟨Bs, 0, none⟩)] (fun x : Int × Int => #[Value.int .i64 x.1, Value.int .i64 x.2]) (KeepsAt Bs (.cells #[.int .i64 h0, .int .i64 h1, .int .i64 h2, .int .i64 h3, .int .i64 h4, .int .i64 h5, .int .u32 h6, .int .u32 h7, .string o] 24 (0, 0))) (fun ys => ys = limitsOf h0 h1 h2 h3 h4 h5) (fun pre => pre <+: limitsOf h0 h1 h2 h3 h4 h5) 6 w := fun l J Jx W hW _ _ hY h0' =>
 limits1_in F n hf hro hn l Bs h0 h1 h2 h3 h4 h5 h6 h7 o J Jx hY W ((hW.block Bs (Array.getElem?_eq_some_iff.1 hBs).1).trans hBs) h0'
set_option maxRecDepth 100000 in
set_option maxHeartbeats 4000000 in
theorem ip4_Right_in (h0 h1 h2 h3 h4 h5 h6 h7 : Int) (o : ByteArray) (w : World) (hs : o.size ≤ 140737488355328) :
  CallsIn Fence.wide 4 Try.prog 14 #[.agg #[.int .i64 h0, .int .i64 h1, .int .i64 h2, .int .i64 h3, .int .i64 h4, .int .i64 h5, .int .u32 h6, .int .u32 h7, .string o]] w fun e w' => e = .returned (.bool (Sp.ip4Right h0 h1 h2 h3 h4 h5 (bl o))) ∧ Below w.heap.size w w' := by
 have HS := Lib.hid hs
 clear hs
 have hR0 := World.alloc_heap_new w (.cells #[.int .i64 h0, .int .i64 h1, .int .i64 h2, .int .i64 h3, .int .i64 h4, .int .i64 h5, .int .u32 h6, .int .u32 h7, .string o] 24)
 have HR0 := Lib.hid hR0
 clear hR0
 refine callsIn_of_wp_marks Try.func14 rfl trivial ?_ rfl
 simp only [Try.ntmps14, List.size_toArray, List.length_cons, List.length_nil, Nat.reduceAdd, Nat.reduceSub, Array.replicate_succ, Array.replicate_zero, List.push_toArray, List.append_toArray, List.nil_append, List.cons_append]
 gi_wp2
 refine ⟨trivial, ?_⟩
 refine (limits_in Fence.wide _ trivial rfl _ _ _ _ _ _ _ _ _ _).mono ?_
 rintro e w2 ⟨rfl, rfl⟩
 have hR1 := HR0.out
 clear HR0
 have hZ : (((w.alloc (.cells #[.int .i64 h0, .int .i64 h1, .int .i64 h2, .int .i64 h3, .int .i64 h4, .int .i64 h5, .int .u32 h6, .int .u32 h7, .string o] 24)).alloc (.cells #[.bool false] 4)).alloc (.cells #[.int .i64 h0, .int .i64 h1, .int .i64 h2, .int .i64 h3, .int .i64 h4, .int .i64 h5, .int .u32 h6, .int .u32 h7, .string o] 24)).heap.size = w.heap.size + 3 := by simp
 have hBw : Below w.heap.size w (((w.alloc (.cells #[.int .i64 h0, .int .i64 h1, .int .i64 h2, .int .i64 h3, .int .i64 h4, .int .i64 h5, .int .u32 h6, .int .u32 h7, .string o] 24)).alloc (.cells #[.bool false] 4)).alloc (.cells #[.int .i64 h0, .int .i64 h1, .int .i64 h2, .int .i64 h3, .int .i64 h4, .int .i64 h5, .int .u32 h6, .int .u32 h7, .string o] 24)) := ((((Below.refl _ w).alloc (Nat.le_refl _) _).alloc (by simp) _).alloc (by simp; omega) _)
 have hA : (((w.alloc (.cells #[.int .i64 h0, .int .i64 h1, .int .i64 h2, .int .i64 h3, .int .i64 h4, .int .i64 h5, .int .u32 h6, .int .u32 h7, .string o] 24)).alloc (.cells #[.bool false] 4)).alloc (.cells #[.int .i64 h0, .int .i64 h1, .int .i64 h2, .int .i64 h3, .int .i64 h4, .int .i64 h5, .int .u32 h6, .int .u32 h7, .string o] 24)).heap[w.heap.size]? = some (.cells #[.int .i64 h0, .int .i64 h1, .int .i64 h2, .int .i64 h3, .int .i64 h4, .int .i64 h5, .int .u32 h6, .int .u32 h7, .string o] 24 (0, 0)) := heap_alloc'' _ (heap_alloc'' _ hR1)
 have hC : (((w.alloc (.cells #[.int .i64 h0, .int .i64 h1, .int .i64 h2, .int .i64 h3, .int .i64 h4, .int .i64 h5, .int .u32 h6, .int .u32 h7, .string o] 24)).alloc (.cells #[.bool false] 4)).alloc (.cells #[.int .i64 h0, .int .i64 h1, .int .i64 h2, .int .i64 h3, .int .i64 h4, .int .i64 h5, .int .u32 h6, .int .u32 h7, .string o] 24)).heap[w.heap.size + 1]? = some (.cells #[.bool false] 4 (0, 0)) := by
  have := World.alloc_heap_new (w.alloc (.cells #[.int .i64 h0, .int .i64 h1, .int .i64 h2, .int .i64 h3, .int .i64 h4, .int .i64 h5, .int .u32 h6, .int .u32 h7, .string o] 24)) (.cells #[.bool false] 4)
  rw [World.size_alloc] at this
  exact heap_alloc'' _ this
 have hH : (((w.alloc (.cells #[.int .i64 h0, .int .i64 h1, .int .i64 h2, .int .i64 h3, .int .i64 h4, .int .i64 h5, .int .u32 h6, .int .u32 h7, .string o] 24)).alloc (.cells #[.bool false] 4)).alloc (.cells #[.int .i64 h0, .int .i64 h1, .int .i64 h2, .int .i64 h3, .int .i64 h4, .int .i64 h5, .int .u32 h6, .int .u32 h7, .string o] 24)).heap[w.heap.size + 2]? = some (.cells #[.int .i64 h0, .int .i64 h1, .int .i64 h2, .int .i64 h3, .int .i64 h4, .int .i64 h5, .int .u32 h6, .int .u32 h7, .string o] 24 (0, 0)) := by
  have := World.alloc_heap_new ((w.alloc (.cells #[.int .i64 h0, .int .i64 h1, .int .i64 h2, .int .i64 h3, .int .i64 h4, .int .i64 h5, .int .u32 h6, .int .u32 h7, .string o] 24)).alloc (.cells #[.bool false] 4)) (.cells #[.int .i64 h0, .int .i64 h1, .int .i64 h2, .int .i64 h3, .int .i64 h4, .int .i64 h5, .int .u32 h6, .int .u32 h7, .string o] 24)
  rw [World.size_alloc, World.size_alloc] at this
  exact this
 have hN : ((w.alloc (.cells #[.int .i64 h0, .int .i64 h1, .int .i64 h2, .int .i64 h3, .int .i64 h4, .int .i64 h5, .int .u32 h6, .int .u32 h7, .string o] 24)).alloc (.cells #[.bool false] 4)).heap.size = w.heap.size + 2 := by simp
 (try rw [hN])
 clear hN hR1
 generalize (((w.alloc (.cells #[.int .i64 h0, .int .i64 h1, .int .i64 h2, .int .i64 h3, .int .i64 h4, .int .i64 h5, .int .u32 h6, .int .u32 h7, .string o] 24)).alloc (.cells #[.bool false] 4)).alloc (.cells #[.int .i64 h0, .int .i64 h1, .int .i64 h2, .int .i64 h3, .int .i64 h4, .int .i64 h5, .int .u32 h6, .int .u32 h7, .string o] 24)) = W2 at *
 obtain ⟨A, hAe⟩ : ∃ A, w.heap.size = A := ⟨_, rfl⟩
 have HAe := Lib.hid hAe
 rw [hAe] at hZ hBw hA hC hH ⊢
 clear hAe
 gi_wp2
 have HB0 := hBw
 refine wpIn_rangeFunc_ownF rfl (by decide) (gf := 42) (lb := #[.pointer (some ⟨A + 2, 0, none⟩)]) rfl trivial (enters_of Try.func42 (by kernel_rfl) rfl)
  (limits_stops Fence.wide 3 trivial rfl (by decide) (A + 2) h0 h1 h2 h3 h4 h5 h6 h7 o _ hH) keepsAt_t (keepsAt_b rfl) (Below.refl _ _) (fun _ => rfl)
  (fun pre W => (W.heap[A]? = some (.cells #[.int .i64 h0, .int .i64 h1, .int .i64 h2, .int .i64 h3, .int .i64 h4, .int .i64 h5, .int .u32 h6, .int .u32 h7, .string o] 24 (0, 0)) ∧ W.heap[A + 1]? = some (.cells #[.bool false] 4 (0, 0)) ∧ allGood pre) ∧ Below A w W)
  (fun c pre W => (c = .ret ∧ W.heap[A + 1]? = some (.cells #[.bool false] 4 (0, 0)) ∧ badIn pre) ∧ Below A w W)
  (OwnFrom.and (fun s W W' row hs hg hr => ⟨row_kept hs.1 hg (fun r e => (hr r e).2), row_kept hs.2.1 hg (fun r e => (hr r e).2), hs.2.2⟩) (ownFrom_below (by have := HAe.out; omega) (by omega)))
  (fun c => OwnFrom.and (fun s W W' row hs hg hr => ⟨hs.1, row_kept hs.2.1 hg (fun r e => (hr r e).2), hs.2.2⟩) (ownFrom_below (by have := HAe.out; omega) (by omega)))
  ⟨⟨hA, hC, allGood_nil⟩, hBw⟩
  (fun x => { tmps := #[.agg #[.int .i64 h0, .int .i64 h1, .int .i64 h2, .int .i64 h3, .int .i64 h4, .int .i64 h5, .int .u32 h6, .int .u32 h7, .string o], .pointer (some ⟨A, 0, none⟩), .pointer (some ⟨A + 1, 0, none⟩), .int .i64 x.1, .int .i64 x.2, .agg #[.int .i64 h0, .int .i64 h1, .int .i64 h2, .int .i64 h3, .int .i64 h4, .int .i64 h5, .int .u32 h6, .int .u32 h7, .string o], .func (.func 42) #[] #[.pointer (some ⟨A + 2, 0, none⟩)], .int .i64 x.1, .int .i64 x.2, undef, undef, undef, undef, undef, undef, undef, undef, undef, undef, undef, undef, undef, undef, undef, undef, undef, undef, undef, undef, undef, undef, undef], defers := [] }) ?assign ?body ?done ?stop
 case assign =>
  intro l x W K hK
  gi_wp2
  exact hK
 case body =>
  rintro l pre x W ⟨⟨hA, hC, hg⟩, hB⟩ hlen
  by_cases hx : goodP x
  ·have d1 : decide (x.1 < 0) = false := decide_eq_false (by have := hx.1; omega)
   have d2 : decide (x.1 > x.2) = false := decide_eq_false (by have := hx.2; omega)
   have d3 : decide (x.2 < x.1) = false := decide_eq_false (by have := hx.2; omega)
   gi_wp2
   exact ⟨KeepsOthers.refl _, fun e => e, ⟨hA, hC, allGood_snoc hg hx⟩, hB⟩
  ·have c1 : W.cell? ⟨A + 1, 0, none⟩ = some (.bool false) := (blk_cell hC 0).trans rfl
   have f1 := blk_frozen hC 0
   by_cases h1 : x.1 < 0
   ·have d1 : decide (x.1 < 0) = true := decide_eq_true h1
    gi_wp2
    exact ⟨KeepsOthers.setCell _ _ _, ⟨rfl, blk_put hC 0 _ rfl, badIn_snoc hx⟩, hB.setCell (show A ≤ A + 1 by omega) _⟩
   ·have h2 : x.2 < x.1 := by unfold goodP at hx; omega
    have d1 : decide (x.1 < 0) = false := decide_eq_false h1
    have d2 : decide (x.1 > x.2) = true := decide_eq_true h2
    have d3 : decide (x.2 < x.1) = true := decide_eq_true h2
    gi_wp2
    exact ⟨KeepsOthers.setCell _ _ _, ⟨rfl, blk_put hC 0 _ rfl, badIn_snoc hx⟩, hB.setCell (show A ≤ A + 1 by omega) _⟩
 case done =>
  rintro D ys W hDD rfl ⟨⟨hA, hC, hg⟩, hB⟩ hK
  have c8 : W.cell? ⟨A, 8, none⟩ = some (.string o) := (blk_cell hA 8).trans rfl
  have c1 : W.cell? ⟨A + 1, 0, none⟩ = some (.bool false) := (blk_cell hC 0).trans rfl
  have f1 := blk_frozen hC 0
  have HQ := Lib.hid (And.intro hA (And.intro hC (And.intro hg (And.intro hB hK))))
  clear hA hC hg hB hK hBw hH HB0
  have hZD : A + 1 ≠ D := by omega
  by_cases h40 : (o.size : Int) ≤ 40
  ·by_cases hm : (o.size : Int) % 4 = 0
   ·gi_wp2
    clear c8 c1 f1
    refine ⟨trivial, (callsIn_wide.2 (ip4_OptsRight.calls o _ _ (ip4_OptsRight_eq HS.out))).mono ?_⟩
    rintro e w3 ⟨rfl, hb⟩
    obtain ⟨hA, hC, hg, hB, hK⟩ := HQ.out
    clear HQ
    have hb := hb.below
    have hC' := i4_heap_step hC hb
    have hK' := i4_heap_step hK hb
    have hB' : Below A w w3 := hB.trans (below_base (by have := hB.size; have := HAe.out; omega) hb)
    have c1 : w3.cell? ⟨A + 1, 0, none⟩ = some (.bool false) := (blk_cell hC' 0).trans rfl
    have f1 := blk_frozen hC' 0
    clear hA hC hB hK hb
    gi_wp2
    refine ⟨by simp, .inl ⟨_, _, rfl, run_takeDeferred (right_def hK' hZD), ?_⟩⟩
    refine ⟨_, results_cell1 rfl _ _ (A + 1) (.bool (Sp.optsOk (bl o))) _ rfl (blk_cell (right_far hZD (blk_put hC' 0 _ rfl)) 0) rfl Try.underlying4, ?_, ?_⟩
    ·rw [ip4_list_good hg, decide_eq_true (show (bl o).length ≤ 40 ∧ (bl o).length % 4 = 0 by rw [bl_length]; omega)]; rfl
    ·rw [HAe.out]
     exact belowK_b (n₀ := A) (w := w) (by have := HAe.out; omega) _ D _ _ (by have := HAe.out; omega) (right_def hK' hZD) rfl rfl |> fun h => (hB'.setCell (show A ≤ A + 1 by omega) _).trans h
   ·gi_wp2
    refine ⟨trivial, ?_⟩
    obtain ⟨hA, hC, hg, hB, hK⟩ := HQ.out
    gi_wp2
    refine ⟨by simp, .inl ⟨_, _, rfl, run_takeDeferred (right_def hK hZD), ?_⟩⟩
    refine ⟨_, results_cell1 rfl _ _ (A + 1) (.bool false) _ rfl (blk_cell (right_far hZD (blk_put hC 0 _ rfl)) 0) rfl Try.underlying4, ?_, ?_⟩
    ·rw [ip4_list_good hg, decide_eq_false (show ¬ ((bl o).length ≤ 40 ∧ (bl o).length % 4 = 0) by rw [bl_length]; omega)]; rfl
    ·rw [HAe.out]
     exact belowK_b (n₀ := A) (w := w) (by have := HAe.out; omega) _ D _ _ (by have := HAe.out; omega) (right_def hK hZD) rfl rfl |> fun h => (hB.setCell (show A ≤ A + 1 by omega) _).trans h
  ·gi_wp2
   refine ⟨trivial, ?_⟩
   obtain ⟨hA, hC, hg, hB, hK⟩ := HQ.out
   gi_wp2
   refine ⟨by simp, .inl ⟨_, _, rfl, run_takeDeferred (right_def hK hZD), ?_⟩⟩
   refine ⟨_, results_cell1 rfl _ _ (A + 1) (.bool false) _ rfl (blk_cell (right_far hZD (blk_put hC 0 _ rfl)) 0) rfl Try.underlying4, ?_, ?_⟩
   ·rw [ip4_list_good hg, decide_eq_false (show ¬ ((bl o).length ≤ 40 ∧ (bl o).length % 4 = 0) by rw [bl_length]; omega)]; rfl
   ·rw [HAe.out]
    exact belowK_b (n₀ := A) (w := w) (by have := HAe.out; omega) _ D _ _ (by have := HAe.out; omega) (right_def hK hZD) rfl rfl |> fun h => (hB.setCell (show A ≤ A + 1 by omega) _).trans h
 case stop =>
  rintro D c pre W hDD hpre ⟨⟨rfl, hC, hbad⟩, hB⟩ hK
  have hZD : A + 1 ≠ D := by omega
  gi_wp2
  refine ⟨by simp, .inl ⟨_, _, rfl, run_takeDeferred hK, ?_⟩⟩
  refine ⟨_, results_cell1 rfl _ _ (A + 1) (.bool false) _ rfl (blk_cell (right_far hZD hC) 0) rfl Try.underlying4, ?_, ?_⟩
  ·obtain ⟨q, hq, hb⟩ := hbad
   rw [ip4_list_bad (hpre.subset hq) hb]
  ·rw [HAe.out]
   exact hB.trans (belowK_b (n₀ := A) (w := w) (by have := HAe.out; omega) _ D _ _ (by have := HAe.out; omega) hK rfl rfl)
end
def ip4_Right.f (a0_0 a0_1 a0_2 a0_3 a0_4 a0_5 a0_6 a0_7 : Int) (a0_8 : ByteArray) : Option Bool := if a0_8.size ≤ 140737488355328 then some (Sp.ip4Right a0_0 a0_1 a0_2 a0_3 a0_4 a0_5 (bl a0_8)) else none
theorem ip4_Right_eq {a0_0 a0_1 a0_2 a0_3 a0_4 a0_5 a0_6 a0_7 : Int} {a0_8 : ByteArray} (h : a0_8.size ≤ 140737488355328) : ip4_Right.f a0_0 a0_1 a0_2 a0_3 a0_4 a0_5 a0_6 a0_7 a0_8 = some (Sp.ip4Right a0_0 a0_1 a0_2 a0_3 a0_4 a0_5 (bl a0_8)) := by unfold ip4_Right.f; exact if_pos h
theorem ip4_Right.calls (a0_0 : Int) (a0_1 : Int) (a0_2 : Int) (a0_3 : Int) (a0_4 : Int) (a0_5 : Int) (a0_6 : Int) (a0_7 : Int) (a0_8 : ByteArray) (r : Bool) (w : World) (h : ip4_Right.f a0_0 a0_1 a0_2 a0_3 a0_4 a0_5 a0_6 a0_7 a0_8 = some r) :
  Calls Try.prog 14 #[.agg #[.int .i64 a0_0, .int .i64 a0_1, .int .i64 a0_2, .int .i64 a0_3, .int .i64 a0_4, .int .i64 a0_5, .int .u32 a0_6, .int .u32 a0_7, .string a0_8]] w fun e w' => e = .returned (.bool r) ∧ Below w.heap.size w w' := by
 unfold ip4_Right.f at h
 split at h
 case isFalse => cases h
 case isTrue hs =>
  obtain rfl := Option.some.inj h
  exact callsIn_wide.1 (ip4_Right_in _ _ _ _ _ _ _ _ _ w hs)
/-! ### ip4_Header_bytes: function 23 -/
theorem bld_size : (Try.prog.info? 74).map (·.size) = some 2 := by kernel_rfl
theorem bld_lies : liesAt Try.prog Try.prog.depth 74 (2 / Try.prog.cellsOf 74) 0 74 1 = true := by kernel_rfl
theorem byte_info : (Try.prog.info? 5).map (fun i => (i.zero, i.size, i.bytes)) = some (some (.int .u8 0), 1, 1) := by kernel_rfl
set_option maxHeartbeats 1000000 in
set_option maxRecDepth 100000 in
/-- A builder that has been used: nothing turns. -/
theorem bld_check_used (b : Nat) (w : World) (h0 : w.cell? ⟨b, 0, none⟩ = some (.pointer (some ⟨b, 0, none⟩))) :
  Calls Try.prog 48 #[.pointer (some ⟨b, 0, none⟩)] w fun e w' => e = .returned (.tuple #[]) ∧ w' = w := by
 obtain ⟨j, hj, _⟩ := Option.map_eq_some_iff.1 bld_size
 go_enter Try.func48, Try.ntmps48
 go_wp2
 rw [Lib.run_neq_ptr_same w _ Try.underlying72 hj]
 go_wp2
 go_end0
 exact ⟨rfl, rfl⟩
set_option maxHeartbeats 1000000 in
set_option maxRecDepth 100000 in
/-- A fresh builder: it stores its own address. -/
theorem bld_check_fresh (b : Nat) (w : World) (h0 : w.cell? ⟨b, 0, none⟩ = some (.pointer none)) (hsh : w.shape? b = some (74, 2)) (hfz : w.frozen? ⟨b, 0, none⟩ = false) :
  Calls Try.prog 48 #[.pointer (some ⟨b, 0, none⟩)] w fun e w' => e = .returned (.tuple #[]) ∧ w' = w.setCell ⟨b, 0, none⟩ (.pointer (some ⟨b, 0, none⟩)) := by
 obtain ⟨j, hj, hjs⟩ := Option.map_eq_some_iff.1 bld_size
 go_enter Try.func48, Try.ntmps48
 go_wp2
 rw [Lib.run_to_unsafe w ⟨b, 0, none⟩ Try.underlying72 Try.underlying88 hj (by rw [hjs]; decide) hsh (Nat.zero_lt_succ 1)]
 simp only [Result.andThen]
 rw [Oper.upon_value]
 go_wp2
 rw [run_callFunc_extern Try.func50 (by kernel_rfl) (by kernel_rfl) (by kernel_rfl) (e := Extern.AbiNoEscape.same) (by kernel_rfl)]
 rw [Lib.run_noEscape]
 simp only [Result.andThen]
 rw [Oper.upon_value]
 go_wp2
 rw [Lib.run_from_unsafe w ⟨b, 0, none⟩ Try.underlying88 Try.underlying72 hj hsh bld_lies]
 simp only [Result.andThen]
 rw [Oper.upon_value]
 go_wp2
 go_end0
 exact ⟨rfl, rfl⟩
theorem bld_check (B b : Nat) (bs : List Value) (w : World) (h : Lib.IsBuilder 74 5 B b bs w) :
  Calls Try.prog 48 #[.pointer (some ⟨b, 0, none⟩)] w fun e w' => e = .returned (.tuple #[]) ∧ (Lib.BuilderAt 74 5 B b (.pointer (some ⟨b, 0, none⟩)) bs w' ∧ Below B w w') := by
 rcases h with h | h
 ·refine (bld_check_fresh b w h.cell0 h.shape h.frozen0).mono ?_
  rintro e w' ⟨rfl, rfl⟩
  exact ⟨rfl, h.used _, (Below.refl B w).setCell (p := ⟨b, 0, none⟩) h.1 _⟩
 refine (bld_check_used b w h.cell0).mono ?_
 rintro e w' ⟨rfl, rfl⟩
 exact ⟨rfl, h, Below.refl B _⟩
set_option maxHeartbeats 2000000 in
set_option maxRecDepth 100000 in
theorem bld_write (B b : Nat) (bs : List Value) (s : ByteArray) (w : World) (h : Lib.IsBuilder 74 5 B b bs w) (hlen : bs.length + s.size ≤ 140737488355328) (hBw : B ≤ w.heap.size) :
  Calls Try.prog 39 #[.pointer (some ⟨b, 0, none⟩), .string s] w fun e w' => e = .returned (.tuple #[.int .i64 s.size, .nilIface]) ∧ (Lib.BuilderAt 74 5 B b (.pointer (some ⟨b, 0, none⟩)) (bs ++ Lib.strCells s) w' ∧ Below B w w') := by
 obtain ⟨i0, hi, hz0, hz1, hz2⟩ := info_parts byte_info
 go_enter Try.func39, Try.ntmps39
 go_wp2_with (go_at_call 48; refine (bld_check B b bs _ h).mono ?_)
 rintro e w1 ⟨rfl, h1, hb1⟩
 obtain ⟨hB, v, hbk, hown, hne⟩ := h1
 have c0 : w1.cell? ⟨b, 0, none⟩ = some (.pointer (some ⟨b, 0, none⟩)) := by rw [Lib.cell_of_heap hbk]; rfl
 have c1 : w1.cell? ⟨b, 1, none⟩ = some v := by rw [Lib.cell_of_heap hbk]; rfl
 go_wp2_with (at_builtin; refine Lib.wpList_append_own_string _ rfl _ _ 42 9 rfl B 5 i0 Try.underlying42 Try.underlying9 hi hz0 hz1 hz2 _ _ _ rfl hown s rfl ?c3 ?c4 ?c5 ?_)
 case c3 => unfold maxLen; omega
 case c4 => omega
 case c5 => have := hb1.size; omega
 intro v' w2 hown' hgrow _
 have hlt : b < w1.heap.size := by
  rcases Nat.lt_or_ge b w1.heap.size with h' | h'
  ·exact h'
  ·simp [Array.getElem?_eq_none h'] at hbk
 have hb2 : w2.heap[b]? = some (.cells #[.pointer (some ⟨b, 0, none⟩), v] 74 (0, 0)) := by
  rw [hgrow.block b hlt (fun e => hne e.symm)]
  exact hbk
 have d0 : w2.cell? ⟨b, 0, none⟩ = some (.pointer (some ⟨b, 0, none⟩)) := by rw [Lib.cell_of_heap hb2]; rfl
 have d1 : w2.cell? ⟨b, 1, none⟩ = some v := by rw [Lib.cell_of_heap hb2]; rfl
 have f1 : w2.frozen? ⟨b, 1, none⟩ = false := Lib.frozen_of_heap hb2 1
 obtain ⟨ao, n', cap, rfl⟩ : ∃ ao n' cap, v' = .slice ao n' cap := by
  rcases hown'.2 with ⟨hv, _⟩ | ⟨g, cap, cur, hv, _⟩
  ·exact ⟨_, _, _, hv⟩
  ·exact ⟨_, _, _, hv⟩
 go_wp2
 go_ret2
 refine ⟨rfl, ?_, ?_⟩
 ·exact Lib.BuilderAt.put (T := 74) (e := 5) hB hb2 (bs' := bs ++ Lib.strCells s) (by simpa [Lib.strCells_length] using hown') (by decide)
 exact (hb1.grown hgrow (by have := hb1.size; omega) (fun k hk => (hown.lt k hk).1)).setCell (p := ⟨b, 1, none⟩) hB _
--BEGIN
theorem builder_below {T e : TypeId} {B b : Nat} {p : Value} {bs : List Value} {w w' : World} (h : Lib.BuilderAt T e B b p bs w) (hb : Below w.heap.size w w') : Lib.BuilderAt T e B b p bs w' := by
 have hl := h.lt
 obtain ⟨h1, v, h2, h3, h4⟩ := h
 exact ⟨h1, v, (hb.block b hl).trans h2, pw_own_below h3 hb, h4⟩
theorem builder_is_below {T e : TypeId} {B b : Nat} {bs : List Value} {w w' : World} (h : Lib.IsBuilder T e B b bs w) (hb : Below w.heap.size w w') : Lib.IsBuilder T e B b bs w' := by
 rcases h with h | h
 ·exact .inl (builder_below h hb)
 exact .inr (builder_below h hb)
set_option maxRecDepth 100000 in
theorem ip4_put (B b : Nat) (acc : List UInt8) (sz n : Int) (w : World) (hf : Sp.fits sz n = true) (h : Lib.IsBuilder 74 5 B b (Lib.byteCells acc) w) (hlen : acc.length ≤ 1000) (hBw : B ≤ w.heap.size) :
  Calls Try.prog 37 #[.int .i64 sz, .int .i64 n, .pointer (some ⟨b, 0, none⟩)] w fun e w' => e = .returned (.tuple #[]) ∧ Lib.BuilderAt 74 5 B b (.pointer (some ⟨b, 0, none⟩)) (Lib.byteCells (acc ++ Sp.beBytes sz.toNat n)) w' ∧ Below B w w' := by
 have hp := Sp.put_yes hf
 have hff := Sp.fits_iff.1 hf
 have hq : octet_Put.f sz n = some (lb (Sp.beBytes sz.toNat n), true) := by unfold octet_Put.f; rw [hp]
 have H := fun W => octet_Put.calls sz n _ _ W hq
 have hz : (lb (Sp.beBytes sz.toNat n)).size ≤ 4 := by rw [lb_size, Sp.beBytes_length]; omega
 have hc : Lib.byteCells acc ++ Lib.strCells (lb (Sp.beBytes sz.toNat n)) = Lib.byteCells (acc ++ Sp.beBytes sz.toNat n) := by
  rw [Lib.byteCells_append]; rfl
 have HC := Lib.hid hc
 have HZ := Lib.hid hz
 have HB := Lib.hid h
 clear hc hz hp hq h hf hff
 generalize lb (Sp.beBytes sz.toNat n) = T at *
 go_enter Try.func37, Try.ntmps37
 go_wp2_with (fail)
 refine (H _).mono ?_
 rintro e w1 ⟨rfl, hb⟩
 have h1 := builder_is_below HB.out hb
 go_wp2_with (fail)
 refine (bld_write B b _ T w1 h1 (by have := HZ.out; simp only [Lib.byteCells, List.length_map]; omega) (by have := hb.size; omega)).mono ?_
 rintro e w2 ⟨rfl, h2, hb2⟩
 rw [HC.out] at h2
 go_wp2_with (fail)
 go_end0
 exact ⟨rfl, h2, (below_base hBw hb).trans hb2⟩
set_option maxRecDepth 100000 in
set_option maxHeartbeats 4000000 in
theorem ip4_bytes (h0 h1 h2 h3 h4 h5 h6 h7 : Int) (o : ByteArray) (total ck : Int) (w : World) (hr : Sp.ip4Right h0 h1 h2 h3 h4 h5 (bl o) = true) (h6b : 0 ≤ h6 ∧ h6 ≤ 4294967295) (h7b : 0 ≤ h7 ∧ h7 ≤ 4294967295) (ht : 0 ≤ total ∧ total ≤ 65535) (hc : 0 ≤ ck ∧ ck ≤ 65535) :
  Calls Try.prog 23 #[.agg #[.int .i64 h0, .int .i64 h1, .int .i64 h2, .int .i64 h3, .int .i64 h4, .int .i64 h5, .int .u32 h6, .int .u32 h7, .string o], .int .i64 total, .int .u16 ck] w fun e w' => e = .returned (.string (lb (Sp.ip4Head h0 h1 h2 h3 h4 h5 h6 h7 (bl o) total ck))) ∧ Below w.heap.size w w' := by
 obtain ⟨r0, r1, r2, r3, r4, r5, ro, _⟩ := Sp.ip4Right_iff.1 hr
 have hol := bl_length o
 obtain ⟨n0, e0⟩ : ∃ n, Go.bits .or .i64 64 (wrap64 (Int.tdiv (wrap64 (20 + (o.size : Int))) 4)) = n := ⟨_, rfl⟩
 obtain ⟨n4, e4⟩ : ∃ n, Go.bits .or .i64 (wrap64 (h2 * 8192)) h3 = n := ⟨_, rfl⟩
 obtain ⟨n7, e7⟩ : ∃ n, wrap64 ck = n := ⟨_, rfl⟩
 obtain ⟨n8, e8⟩ : ∃ n, wrap64 h6 = n := ⟨_, rfl⟩
 obtain ⟨n9, e9⟩ : ∃ n, wrap64 h7 = n := ⟨_, rfl⟩
 have v0 : n0 = 64 + (20 + (o.size : Int)) / 4 := by
  rw [← e0, wrap_id (n := 20 + (o.size : Int)) (by omega) (by omega), Int.tdiv_eq_ediv_of_nonneg (by omega), wrap_id (n := (20 + (o.size : Int)) / 4) (by omega) (by omega)]
  exact bits_join .i64 62 (by decide) (fun n a b => by rw [IntKind.wrap_i64]; omega) 6 64 ((20 + (o.size : Int)) / 4) (by omega) (by omega) (by omega) (by omega) (by omega) (by omega)
 have v4 : n4 = h2 * 8192 + h3 := by
  rw [← e4, wrap_id (n := h2 * 8192) (by omega) (by omega)]
  exact bits_join .i64 62 (by decide) (fun n a b => by rw [IntKind.wrap_i64]; omega) 13 (h2 * 8192) h3 (by omega) (by omega) (by omega) (by omega) (by omega) (by omega)
 have v7 : n7 = ck := by rw [← e7]; exact wrap_id (by omega) (by omega)
 have v8 : n8 = h6 := by rw [← e8]; exact wrap_id (by omega) (by omega)
 have v9 : n9 = h7 := by rw [← e9]; exact wrap_id (by omega) (by omega)
 have f1 : ∀ n, 0 ≤ n → n ≤ 255 → Sp.fits 1 n = true := fun n a b => Sp.fits1.2 ⟨a, b⟩
 have f2 : ∀ n, 0 ≤ n → n ≤ 65535 → Sp.fits 2 n = true := fun n a b => Sp.fits2.2 ⟨a, b⟩
 have f4 : ∀ n, 0 ≤ n → n ≤ 4294967295 → Sp.fits 4 n = true := fun n a b => Sp.fits_iff.2 ⟨by decide, by decide, a, by show n < 256 ^ 4; omega⟩
 have F0 := Lib.hid (f1 n0 (by omega) (by omega))
 have F1 := Lib.hid (f1 h0 (by omega) (by omega))
 have F2 := Lib.hid (f2 total (by omega) (by omega))
 have F3 := Lib.hid (f2 h1 (by omega) (by omega))
 have F4 := Lib.hid (f2 n4 (by omega) (by omega))
 have F5 := Lib.hid (f1 h4 (by omega) (by omega))
 have F6 := Lib.hid (f1 h5 (by omega) (by omega))
 have F7 := Lib.hid (f2 n7 (by omega) (by omega))
 have F8 := Lib.hid (f4 n8 (by omega) (by omega))
 have F9 := Lib.hid (f4 n9 (by omega) (by omega))
 have hos : o.size ≤ 40 := by omega
 have HV := Lib.hid (And.intro v0 (And.intro v4 (And.intro v7 (And.intro v8 v9))))
 clear v0 v4 v7 v8 v9 f1 f2 f4 r0 r1 r2 r3 r4 r5 ro hr h6b h7b ht hc hol
 have HO := Lib.hid hos
 clear hos
 have hR0 := World.alloc_heap_new w (.cells #[.int .i64 h0, .int .i64 h1, .int .i64 h2, .int .i64 h3, .int .i64 h4, .int .i64 h5, .int .u32 h6, .int .u32 h7, .string o] 24)
 have hI0 := Lib.fresh_isBuilder 74 5 (w.alloc (.cells #[.int .i64 h0, .int .i64 h1, .int .i64 h2, .int .i64 h3, .int .i64 h4, .int .i64 h5, .int .u32 h6, .int .u32 h7, .string o] 24))
 have c8 := (blk_cell hR0 8).trans rfl
 have HI0 := Lib.hid (And.intro hR0 hI0)
 clear hR0 hI0
 go_enter Try.func23, Try.ntmps23
 go_wp2_with (fail)
 obtain ⟨hR0, hI0⟩ := HI0.out
 clear HI0
 have hZ : (w.alloc (.cells #[.int .i64 h0, .int .i64 h1, .int .i64 h2, .int .i64 h3, .int .i64 h4, .int .i64 h5, .int .u32 h6, .int .u32 h7, .string o] 24)).heap.size = w.heap.size + 1 := by simp
 have hB0 : Below w.heap.size w (w.alloc (.cells #[.int .i64 h0, .int .i64 h1, .int .i64 h2, .int .i64 h3, .int .i64 h4, .int .i64 h5, .int .u32 h6, .int .u32 h7, .string o] 24)) := (Below.refl _ w).alloc (Nat.le_refl _) _
 have hbb : Below (w.alloc (.cells #[.int .i64 h0, .int .i64 h1, .int .i64 h2, .int .i64 h3, .int .i64 h4, .int .i64 h5, .int .u32 h6, .int .u32 h7, .string o] 24)).heap.size (w.alloc (.cells #[.int .i64 h0, .int .i64 h1, .int .i64 h2, .int .i64 h3, .int .i64 h4, .int .i64 h5, .int .u32 h6, .int .u32 h7, .string o] 24)) ((w.alloc (.cells #[.int .i64 h0, .int .i64 h1, .int .i64 h2, .int .i64 h3, .int .i64 h4, .int .i64 h5, .int .u32 h6, .int .u32 h7, .string o] 24)).alloc (.cells #[.pointer none, .slice none 0 0] 74)) := (Below.refl _ _).alloc (Nat.le_refl _) _
 generalize (w.alloc (.cells #[.int .i64 h0, .int .i64 h1, .int .i64 h2, .int .i64 h3, .int .i64 h4, .int .i64 h5, .int .u32 h6, .int .u32 h7, .string o] 24)).alloc (.cells #[.pointer none, .slice none 0 0] 74) = W1 at *
 generalize w.alloc (.cells #[.int .i64 h0, .int .i64 h1, .int .i64 h2, .int .i64 h3, .int .i64 h4, .int .i64 h5, .int .u32 h6, .int .u32 h7, .string o] 24) = W0 at *
 rw [hZ] at hI0 hbb
 obtain ⟨H, hH⟩ : ∃ H, w.heap.size = H := ⟨_, rfl⟩
 rw [hH] at hI0 hbb hR0 hB0 hZ ⊢
 obtain ⟨b, hbH⟩ : ∃ b, H + 1 = b := ⟨_, rfl⟩
 rw [hbH] at hI0 hbb hZ ⊢
 have hHb : H < b := by omega
 have HH := Lib.hid hH
 clear hH hbH
 have hI : Lib.IsBuilder 74 5 b b (Lib.byteCells ([] : List UInt8)) W1 := hI0
 clear hI0 c8
 -- 0
 have HZ := Lib.hid (And.intro hR0 (And.intro hB0 hZ))
 clear hR0 hB0 hZ
 refine (ip4_put b b (([] : List UInt8)) 1 n0 _ F0.out hI (by simp only [List.length_append, List.length_nil, Sp.beBytes_length]; omega) (by have := hbb.size; have := HZ.out.2.2; omega)).mono ?_
 rintro e w1 ⟨rfl, hJ, hb⟩
 have hB' := hbb.trans hb
 obtain ⟨hR0, hB0, hZ⟩ := HZ.out
 clear hbb hI hb HZ
 have hbb := hB'
 clear hB'
 have hR := (hbb.block _ hHb).trans hR0
 have c0 := (blk_cell hR 0).trans rfl
 clear hR
 have HQ := Lib.hid (And.intro (And.intro hR0 (And.intro hB0 hZ)) (And.intro hbb hJ))
 clear hR0 hB0 hZ hbb hJ
 go_wp2_with (fail)
 obtain ⟨⟨hR0, hB0, hZ⟩, hbb, hJ⟩ := HQ.out
 clear HQ
 clear c0
 have hI := Or.inr hJ (a := Lib.BuilderAt 74 5 b b (.pointer none) (Lib.byteCells (([] : List UInt8) ++ Sp.beBytes (1 : Int).toNat (n0))) w1)
 clear hJ
 -- 1
 have HZ := Lib.hid (And.intro hR0 (And.intro hB0 hZ))
 clear hR0 hB0 hZ
 refine (ip4_put b b (([] : List UInt8) ++ Sp.beBytes (1 : Int).toNat (n0)) 1 h0 _ F1.out hI (by simp only [List.length_append, List.length_nil, Sp.beBytes_length]; omega) (by have := hbb.size; have := HZ.out.2.2; omega)).mono ?_
 rintro e w2 ⟨rfl, hJ, hb⟩
 have hB' := hbb.trans hb
 obtain ⟨hR0, hB0, hZ⟩ := HZ.out
 clear hbb hI hb HZ
 have hbb := hB'
 clear hB'
 have HQ := Lib.hid (And.intro (And.intro hR0 (And.intro hB0 hZ)) (And.intro hbb hJ))
 clear hR0 hB0 hZ hbb hJ
 go_wp2_with (fail)
 obtain ⟨⟨hR0, hB0, hZ⟩, hbb, hJ⟩ := HQ.out
 clear HQ
 have hI := Or.inr hJ (a := Lib.BuilderAt 74 5 b b (.pointer none) (Lib.byteCells (([] : List UInt8) ++ Sp.beBytes (1 : Int).toNat (n0) ++ Sp.beBytes (1 : Int).toNat (h0))) w2)
 clear hJ
 -- 2
 have HZ := Lib.hid (And.intro hR0 (And.intro hB0 hZ))
 clear hR0 hB0 hZ
 refine (ip4_put b b (([] : List UInt8) ++ Sp.beBytes (1 : Int).toNat (n0) ++ Sp.beBytes (1 : Int).toNat (h0)) 2 total _ F2.out hI (by simp only [List.length_append, List.length_nil, Sp.beBytes_length]; omega) (by have := hbb.size; have := HZ.out.2.2; omega)).mono ?_
 rintro e w3 ⟨rfl, hJ, hb⟩
 have hB' := hbb.trans hb
 obtain ⟨hR0, hB0, hZ⟩ := HZ.out
 clear hbb hI hb HZ
 have hbb := hB'
 clear hB'
 have hR := (hbb.block _ hHb).trans hR0
 have c1 := (blk_cell hR 1).trans rfl
 clear hR
 have HQ := Lib.hid (And.intro (And.intro hR0 (And.intro hB0 hZ)) (And.intro hbb hJ))
 clear hR0 hB0 hZ hbb hJ
 go_wp2_with (fail)
 obtain ⟨⟨hR0, hB0, hZ⟩, hbb, hJ⟩ := HQ.out
 clear HQ
 clear c1
 have hI := Or.inr hJ (a := Lib.BuilderAt 74 5 b b (.pointer none) (Lib.byteCells (([] : List UInt8) ++ Sp.beBytes (1 : Int).toNat (n0) ++ Sp.beBytes (1 : Int).toNat (h0) ++ Sp.beBytes (2 : Int).toNat (total))) w3)
 clear hJ
 -- 3
 have HZ := Lib.hid (And.intro hR0 (And.intro hB0 hZ))
 clear hR0 hB0 hZ
 refine (ip4_put b b (([] : List UInt8) ++ Sp.beBytes (1 : Int).toNat (n0) ++ Sp.beBytes (1 : Int).toNat (h0) ++ Sp.beBytes (2 : Int).toNat (total)) 2 h1 _ F3.out hI (by simp only [List.length_append, List.length_nil, Sp.beBytes_length]; omega) (by have := hbb.size; have := HZ.out.2.2; omega)).mono ?_
 rintro e w4 ⟨rfl, hJ, hb⟩
 have hB' := hbb.trans hb
 obtain ⟨hR0, hB0, hZ⟩ := HZ.out
 clear hbb hI hb HZ
 have hbb := hB'
 clear hB'
 have hR := (hbb.block _ hHb).trans hR0
 have c2 := (blk_cell hR 2).trans rfl
 have c3 := (blk_cell hR 3).trans rfl
 clear hR
 have HQ := Lib.hid (And.intro (And.intro hR0 (And.intro hB0 hZ)) (And.intro hbb hJ))
 clear hR0 hB0 hZ hbb hJ
 go_wp2_with (fail)
 obtain ⟨⟨hR0, hB0, hZ⟩, hbb, hJ⟩ := HQ.out
 clear HQ
 clear c2 c3
 have hI := Or.inr hJ (a := Lib.BuilderAt 74 5 b b (.pointer none) (Lib.byteCells (([] : List UInt8) ++ Sp.beBytes (1 : Int).toNat (n0) ++ Sp.beBytes (1 : Int).toNat (h0) ++ Sp.beBytes (2 : Int).toNat (total) ++ Sp.beBytes (2 : Int).toNat (h1))) w4)
 clear hJ
 -- 4
 have HZ := Lib.hid (And.intro hR0 (And.intro hB0 hZ))
 clear hR0 hB0 hZ
 refine (ip4_put b b (([] : List UInt8) ++ Sp.beBytes (1 : Int).toNat (n0) ++ Sp.beBytes (1 : Int).toNat (h0) ++ Sp.beBytes (2 : Int).toNat (total) ++ Sp.beBytes (2 : Int).toNat (h1)) 2 n4 _ F4.out hI (by simp only [List.length_append, List.length_nil, Sp.beBytes_length]; omega) (by have := hbb.size; have := HZ.out.2.2; omega)).mono ?_
 rintro e w5 ⟨rfl, hJ, hb⟩
 have hB' := hbb.trans hb
 obtain ⟨hR0, hB0, hZ⟩ := HZ.out
 clear hbb hI hb HZ
 have hbb := hB'
 clear hB'
 have hR := (hbb.block _ hHb).trans hR0
 have c4 := (blk_cell hR 4).trans rfl
 clear hR
 have HQ := Lib.hid (And.intro (And.intro hR0 (And.intro hB0 hZ)) (And.intro hbb hJ))
 clear hR0 hB0 hZ hbb hJ
 go_wp2_with (fail)
 obtain ⟨⟨hR0, hB0, hZ⟩, hbb, hJ⟩ := HQ.out
 clear HQ
 clear c4
 have hI := Or.inr hJ (a := Lib.BuilderAt 74 5 b b (.pointer none) (Lib.byteCells (([] : List UInt8) ++ Sp.beBytes (1 : Int).toNat (n0) ++ Sp.beBytes (1 : Int).toNat (h0) ++ Sp.beBytes (2 : Int).toNat (total) ++ Sp.beBytes (2 : Int).toNat (h1) ++ Sp.beBytes (2 : Int).toNat (n4))) w5)
 clear hJ
 -- 5
 have HZ := Lib.hid (And.intro hR0 (And.intro hB0 hZ))
 clear hR0 hB0 hZ
 refine (ip4_put b b (([] : List UInt8) ++ Sp.beBytes (1 : Int).toNat (n0) ++ Sp.beBytes (1 : Int).toNat (h0) ++ Sp.beBytes (2 : Int).toNat (total) ++ Sp.beBytes (2 : Int).toNat (h1) ++ Sp.beBytes (2 : Int).toNat (n4)) 1 h4 _ F5.out hI (by simp only [List.length_append, List.length_nil, Sp.beBytes_length]; omega) (by have := hbb.size; have := HZ.out.2.2; omega)).mono ?_
 rintro e w6 ⟨rfl, hJ, hb⟩
 have hB' := hbb.trans hb
 obtain ⟨hR0, hB0, hZ⟩ := HZ.out
 clear hbb hI hb HZ
 have hbb := hB'
 clear hB'
 have hR := (hbb.block _ hHb).trans hR0
 have c5 := (blk_cell hR 5).trans rfl
 clear hR
 have HQ := Lib.hid (And.intro (And.intro hR0 (And.intro hB0 hZ)) (And.intro hbb hJ))
 clear hR0 hB0 hZ hbb hJ
 go_wp2_with (fail)
 obtain ⟨⟨hR0, hB0, hZ⟩, hbb, hJ⟩ := HQ.out
 clear HQ
 clear c5
 have hI := Or.inr hJ (a := Lib.BuilderAt 74 5 b b (.pointer none) (Lib.byteCells (([] : List UInt8) ++ Sp.beBytes (1 : Int).toNat (n0) ++ Sp.beBytes (1 : Int).toNat (h0) ++ Sp.beBytes (2 : Int).toNat (total) ++ Sp.beBytes (2 : Int).toNat (h1) ++ Sp.beBytes (2 : Int).toNat (n4) ++ Sp.beBytes (1 : Int).toNat (h4))) w6)
 clear hJ
 -- 6
 have HZ := Lib.hid (And.intro hR0 (And.intro hB0 hZ))
 clear hR0 hB0 hZ
 refine (ip4_put b b (([] : List UInt8) ++ Sp.beBytes (1 : Int).toNat (n0) ++ Sp.beBytes (1 : Int).toNat (h0) ++ Sp.beBytes (2 : Int).toNat (total) ++ Sp.beBytes (2 : Int).toNat (h1) ++ Sp.beBytes (2 : Int).toNat (n4) ++ Sp.beBytes (1 : Int).toNat (h4)) 1 h5 _ F6.out hI (by simp only [List.length_append, List.length_nil, Sp.beBytes_length]; omega) (by have := hbb.size; have := HZ.out.2.2; omega)).mono ?_
 rintro e w7 ⟨rfl, hJ, hb⟩
 have hB' := hbb.trans hb
 obtain ⟨hR0, hB0, hZ⟩ := HZ.out
 clear hbb hI hb HZ
 have hbb := hB'
 clear hB'
 have HQ := Lib.hid (And.intro (And.intro hR0 (And.intro hB0 hZ)) (And.intro hbb hJ))
 clear hR0 hB0 hZ hbb hJ
 go_wp2_with (fail)
 obtain ⟨⟨hR0, hB0, hZ⟩, hbb, hJ⟩ := HQ.out
 clear HQ
 have hI := Or.inr hJ (a := Lib.BuilderAt 74 5 b b (.pointer none) (Lib.byteCells (([] : List UInt8) ++ Sp.beBytes (1 : Int).toNat (n0) ++ Sp.beBytes (1 : Int).toNat (h0) ++ Sp.beBytes (2 : Int).toNat (total) ++ Sp.beBytes (2 : Int).toNat (h1) ++ Sp.beBytes (2 : Int).toNat (n4) ++ Sp.beBytes (1 : Int).toNat (h4) ++ Sp.beBytes (1 : Int).toNat (h5))) w7)
 clear hJ
 -- 7
 have HZ := Lib.hid (And.intro hR0 (And.intro hB0 hZ))
 clear hR0 hB0 hZ
 refine (ip4_put b b (([] : List UInt8) ++ Sp.beBytes (1 : Int).toNat (n0) ++ Sp.beBytes (1 : Int).toNat (h0) ++ Sp.beBytes (2 : Int).toNat (total) ++ Sp.beBytes (2 : Int).toNat (h1) ++ Sp.beBytes (2 : Int).toNat (n4) ++ Sp.beBytes (1 : Int).toNat (h4) ++ Sp.beBytes (1 : Int).toNat (h5)) 2 n7 _ F7.out hI (by simp only [List.length_append, List.length_nil, Sp.beBytes_length]; omega) (by have := hbb.size; have := HZ.out.2.2; omega)).mono ?_
 rintro e w8 ⟨rfl, hJ, hb⟩
 have hB' := hbb.trans hb
 obtain ⟨hR0, hB0, hZ⟩ := HZ.out
 clear hbb hI hb HZ
 have hbb := hB'
 clear hB'
 have hR := (hbb.block _ hHb).trans hR0
 have c6 := (blk_cell hR 6).trans rfl
 clear hR
 have HQ := Lib.hid (And.intro (And.intro hR0 (And.intro hB0 hZ)) (And.intro hbb hJ))
 clear hR0 hB0 hZ hbb hJ
 go_wp2_with (fail)
 obtain ⟨⟨hR0, hB0, hZ⟩, hbb, hJ⟩ := HQ.out
 clear HQ
 clear c6
 have hI := Or.inr hJ (a := Lib.BuilderAt 74 5 b b (.pointer none) (Lib.byteCells (([] : List UInt8) ++ Sp.beBytes (1 : Int).toNat (n0) ++ Sp.beBytes (1 : Int).toNat (h0) ++ Sp.beBytes (2 : Int).toNat (total) ++ Sp.beBytes (2 : Int).toNat (h1) ++ Sp.beBytes (2 : Int).toNat (n4) ++ Sp.beBytes (1 : Int).toNat (h4) ++ Sp.beBytes (1 : Int).toNat (h5) ++ Sp.beBytes (2 : Int).toNat (n7))) w8)
 clear hJ
 -- 8
 have HZ := Lib.hid (And.intro hR0 (And.intro hB0 hZ))
 clear hR0 hB0 hZ
 refine (ip4_put b b (([] : List UInt8) ++ Sp.beBytes (1 : Int).toNat (n0) ++ Sp.beBytes (1 : Int).toNat (h0) ++ Sp.beBytes (2 : Int).toNat (total) ++ Sp.beBytes (2 : Int).toNat (h1) ++ Sp.beBytes (2 : Int).toNat (n4) ++ Sp.beBytes (1 : Int).toNat (h4) ++ Sp.beBytes (1 : Int).toNat (h5) ++ Sp.beBytes (2 : Int).toNat (n7)) 4 n8 _ F8.out hI (by simp only [List.length_append, List.length_nil, Sp.beBytes_length]; omega) (by have := hbb.size; have := HZ.out.2.2; omega)).mono ?_
 rintro e w9 ⟨rfl, hJ, hb⟩
 have hB' := hbb.trans hb
 obtain ⟨hR0, hB0, hZ⟩ := HZ.out
 clear hbb hI hb HZ
 have hbb := hB'
 clear hB'
 have hR := (hbb.block _ hHb).trans hR0
 have c7 := (blk_cell hR 7).trans rfl
 clear hR
 have HQ := Lib.hid (And.intro (And.intro hR0 (And.intro hB0 hZ)) (And.intro hbb hJ))
 clear hR0 hB0 hZ hbb hJ
 go_wp2_with (fail)
 obtain ⟨⟨hR0, hB0, hZ⟩, hbb, hJ⟩ := HQ.out
 clear HQ
 clear c7
 have hI := Or.inr hJ (a := Lib.BuilderAt 74 5 b b (.pointer none) (Lib.byteCells (([] : List UInt8) ++ Sp.beBytes (1 : Int).toNat (n0) ++ Sp.beBytes (1 : Int).toNat (h0) ++ Sp.beBytes (2 : Int).toNat (total) ++ Sp.beBytes (2 : Int).toNat (h1) ++ Sp.beBytes (2 : Int).toNat (n4) ++ Sp.beBytes (1 : Int).toNat (h4) ++ Sp.beBytes (1 : Int).toNat (h5) ++ Sp.beBytes (2 : Int).toNat (n7) ++ Sp.beBytes (4 : Int).toNat (n8))) w9)
 clear hJ
 -- 9
 have HZ := Lib.hid (And.intro hR0 (And.intro hB0 hZ))
 clear hR0 hB0 hZ
 refine (ip4_put b b (([] : List UInt8) ++ Sp.beBytes (1 : Int).toNat (n0) ++ Sp.beBytes (1 : Int).toNat (h0) ++ Sp.beBytes (2 : Int).toNat (total) ++ Sp.beBytes (2 : Int).toNat (h1) ++ Sp.beBytes (2 : Int).toNat (n4) ++ Sp.beBytes (1 : Int).toNat (h4) ++ Sp.beBytes (1 : Int).toNat (h5) ++ Sp.beBytes (2 : Int).toNat (n7) ++ Sp.beBytes (4 : Int).toNat (n8)) 4 n9 _ F9.out hI (by simp only [List.length_append, List.length_nil, Sp.beBytes_length]; omega) (by have := hbb.size; have := HZ.out.2.2; omega)).mono ?_
 rintro e w10 ⟨rfl, hJ, hb⟩
 have hB' := hbb.trans hb
 obtain ⟨hR0, hB0, hZ⟩ := HZ.out
 clear hbb hI hb HZ
 have hbb := hB'
 clear hB'
 have hR := (hbb.block _ hHb).trans hR0
 have c8 := (blk_cell hR 8).trans rfl
 clear hR
 have HQ := Lib.hid (And.intro (And.intro hR0 (And.intro hB0 hZ)) (And.intro hbb hJ))
 clear hR0 hB0 hZ hbb hJ
 go_wp2_with (fail)
 obtain ⟨⟨hR0, hB0, hZ⟩, hbb, hJ⟩ := HQ.out
 clear HQ
 clear c8
 have hI := Or.inr hJ (a := Lib.BuilderAt 74 5 b b (.pointer none) (Lib.byteCells (([] : List UInt8) ++ Sp.beBytes (1 : Int).toNat (n0) ++ Sp.beBytes (1 : Int).toNat (h0) ++ Sp.beBytes (2 : Int).toNat (total) ++ Sp.beBytes (2 : Int).toNat (h1) ++ Sp.beBytes (2 : Int).toNat (n4) ++ Sp.beBytes (1 : Int).toNat (h4) ++ Sp.beBytes (1 : Int).toNat (h5) ++ Sp.beBytes (2 : Int).toNat (n7) ++ Sp.beBytes (4 : Int).toNat (n8) ++ Sp.beBytes (4 : Int).toNat (n9))) w10)
 clear hJ
 -- acc ([] : List UInt8) ++ Sp.beBytes (1 : Int).toNat (n0) ++ Sp.beBytes (1 : Int).toNat (h0) ++ Sp.beBytes (2 : Int).toNat (total) ++ Sp.beBytes (2 : Int).toNat (h1) ++ Sp.beBytes (2 : Int).toNat (n4) ++ Sp.beBytes (1 : Int).toNat (h4) ++ Sp.beBytes (1 : Int).toNat (h5) ++ Sp.beBytes (2 : Int).toNat (n7) ++ Sp.beBytes (4 : Int).toNat (n8) ++ Sp.beBytes (4 : Int).toNat (n9)
 have hos := HO.out
 have hlen : bl o = o.data.toList := rfl
 have hKK := hbb.size
 refine (bld_write b b _ o w10 hI (by simp only [Lib.byteCells, List.length_map, List.length_append, List.length_nil, Sp.beBytes_length]; omega) (by omega)).mono ?_
 rintro e w11 ⟨rfl, hK, hb⟩
 have hbb' := hbb.trans hb
 clear hbb hI hb hKK
 rw [show ∀ l : List UInt8, Lib.byteCells l ++ Lib.strCells o = Lib.byteCells (l ++ bl o) from fun l => by rw [Lib.byteCells_append]; rfl] at hK
 have HQ := Lib.hid (And.intro (And.intro hR0 (And.intro hB0 hZ)) (And.intro hbb' hK))
 clear hR0 hB0 hZ hbb' hK hos hlen
 go_wp2_with (fail)
 obtain ⟨⟨hR0, hB0, hZ⟩, hbb, hK⟩ := HQ.out
 refine (Try.Builder_String_any b b _ w11 (.inr hK) (by have := hbb.size; omega)).mono ?_
 rintro e w12 ⟨rfl, hb⟩
 have HQ := Lib.hid (And.intro (And.intro hR0 (And.intro hB0 hZ)) (And.intro hbb hb))
 clear hR0 hB0 hZ hbb hb hK
 go_wp2_with (fail)
 go_ret
 obtain ⟨⟨hR0, hB0, hZ⟩, hbb, hb⟩ := HQ.out
 obtain ⟨v0, v4, v7, v8, v9⟩ := HV.out
 rw [HH.out]
 refine ⟨?_, hB0.trans (below_base (by omega) (hZ.symm ▸ hbb.trans hb))⟩
 rw [v0, v4, v7, v8, v9]
 unfold Sp.ip4Head
 rw [bl_length]
 simp only [List.nil_append, List.append_assoc]
 rfl
def ip4_Header_bytes.f (a0_0 a0_1 a0_2 a0_3 a0_4 a0_5 a0_6 a0_7 : Int) (a0_8 : ByteArray) (a1 a2 : Int) : Option ByteArray :=
 if Sp.ip4Right a0_0 a0_1 a0_2 a0_3 a0_4 a0_5 (bl a0_8) = true ∧ (0 ≤ a0_6 ∧ a0_6 ≤ 4294967295) ∧ (0 ≤ a0_7 ∧ a0_7 ≤ 4294967295) ∧ (0 ≤ a1 ∧ a1 ≤ 65535) ∧ (0 ≤ a2 ∧ a2 ≤ 65535) then some (lb (Sp.ip4Head a0_0 a0_1 a0_2 a0_3 a0_4 a0_5 a0_6 a0_7 (bl a0_8) a1 a2)) else none
theorem ip4_Header_bytes.calls (a0_0 : Int) (a0_1 : Int) (a0_2 : Int) (a0_3 : Int) (a0_4 : Int) (a0_5 : Int) (a0_6 : Int) (a0_7 : Int) (a0_8 : ByteArray) (a1 : Int) (a2 : Int) (r : ByteArray) (w : World) (h : ip4_Header_bytes.f a0_0 a0_1 a0_2 a0_3 a0_4 a0_5 a0_6 a0_7 a0_8 a1 a2 = some r) :
  Calls Try.prog 23 #[.agg #[.int .i64 a0_0, .int .i64 a0_1, .int .i64 a0_2, .int .i64 a0_3, .int .i64 a0_4, .int .i64 a0_5, .int .u32 a0_6, .int .u32 a0_7, .string a0_8], .int .i64 a1, .int .u16 a2] w fun e w' => e = .returned (.string r) ∧ Below w.heap.size w w' := by
 unfold ip4_Header_bytes.f at h
 split at h
 ·rename_i hh
  cases h
  exact ip4_bytes _ _ _ _ _ _ _ _ _ _ _ w hh.1 hh.2.1 hh.2.2.1 hh.2.2.2.1 hh.2.2.2.2
 cases h
/-! ### ip4_Build_p: function 11 -/
def ip4_Build_p.f (a0_0 : Int) (a0_1 : Int) (a0_2 : Int) (a0_3 : Int) (a0_4 : Int) (a0_5 : Int) (a0_6 : Int) (a0_7 : Int) (a0_8 : ByteArray) (a1 : ByteArray) : Option (ByteArray × Int) := (ip4_Right.f a0_0 a0_1 a0_2 a0_3 a0_4 a0_5 a0_6 a0_7 a0_8).bind fun t107 => (if t107 = true then (if (wrap64 ((wrap64 (20 + (a0_8.size : Int))) + (a1.size : Int))) > 1500 then (some ((⟨#[]⟩ : ByteArray), 18)) else ((ip4_Header_bytes.f a0_0 a0_1 a0_2 a0_3 a0_4 a0_5 a0_6 a0_7 a0_8 (wrap64 ((wrap64 (20 + (a0_8.size : Int))) + (a1.size : Int))) 0).bind fun t108 => ((cksum_Check.f t108).bind fun t109 => ((ip4_Header_bytes.f a0_0 a0_1 a0_2 a0_3 a0_4 a0_5 a0_6 a0_7 a0_8 (wrap64 ((wrap64 (20 + (a0_8.size : Int))) + (a1.size : Int))) t109).bind fun t110 => (if t110.size + a1.size ≤ 9223372036854775807 then (some (t110 ++ a1, 0)) else (none)))))) else (some ((⟨#[]⟩ : ByteArray), 1)))
def ip4_Build_p.T6 : Bool × List (List Nat × List Nat) := (true, [([], []), ([], []), ([], []), ([], []), ([2, 3], [2, 3]), ([4, 4], [4]), ([0, 1, 5, 5], [0, 1, 5]), ([], []), ([6, 7], [6, 7]), ([8, 6, 0, 1, 2, 3, 4, 5, 6, 7, 8], [8]), ([9, 0, 1, 2, 3, 4, 5, 6, 7, 8, 9], [])])
def ip4_Build_p.B6 : List Nat := [0, 0, 0, 0, 12, 28, 63, 0, 255, 511, 1023]
theorem ip4_Build_p.tab6 : rtab .any (opsOf Try.f11 6) = ip4_Build_p.T6 := by kernel_rfl
theorem ip4_Build_p.bits6 : waitsOk ip4_Build_p.T6.2 ip4_Build_p.B6 = true := by kernel_rfl
set_option maxHeartbeats 8000000 in
set_option maxRecDepth 100000 in
theorem ip4_Build_p.calls (a0_0 : Int) (a0_1 : Int) (a0_2 : Int) (a0_3 : Int) (a0_4 : Int) (a0_5 : Int) (a0_6 : Int) (a0_7 : Int) (a0_8 : ByteArray) (a1 : ByteArray) (r1 : ByteArray) (r2 : Int) (w : World) (h : ip4_Build_p.f a0_0 a0_1 a0_2 a0_3 a0_4 a0_5 a0_6 a0_7 a0_8 a1 = some (r1, r2)) :
  Calls Try.prog 11 #[.agg #[.int .i64 a0_0, .int .i64 a0_1, .int .i64 a0_2, .int .i64 a0_3, .int .i64 a0_4, .int .i64 a0_5, .int .u32 a0_6, .int .u32 a0_7, .string a0_8], .string a1] w fun e w' => e = .returned (.tuple #[.string r1, .int .i64 r2]) ∧ Below w.heap.size w w' := by
 have hu24 := Try.underlying24
 have HB := Aside0.mk (Below.refl w.heap.size w)
 have H := h
 unfold ip4_Build_p.f at H
 clear h
 replace H := Option.bind_eq_some_iff.mp H
 obtain ⟨t107, A30, H⟩ := H
 (try set_option simprocs false in dsimp only at H)
 have A3 := Aside0.mk A30
 clear A30
 by_cases c4 : t107 = true
 rotate_left
 ·replace c4 := Bool.eq_false_iff.mpr c4
  subst c4
  have H1 : (some ((⟨#[]⟩ : ByteArray), 1)) = some (r1, r2) := by rw [if_neg (show ¬ (false = true) by decide)] at H; exact H
  clear H
  have H := H1
  clear H1
  simp only [Option.some.injEq, Prod.mk.injEq] at H
  obtain ⟨rfl, rfl⟩ := H
  go_enter Try.func11, Try.ntmps11
  go_wp2_with (first | ((with_reducible refine gate_dst (N := 2) rfl ?_); refine box_event ?hg (N := 2) ?hd (cs := #[.int .i64 a0_0, .int .i64 a0_1, .int .i64 a0_2, .int .i64 a0_3, .int .i64 a0_4, .int .i64 a0_5, .int .u32 a0_6, .int .u32 a0_7, .string a0_8]) (t := 24) ?hr ?_; (case hd => rfl); (case hg => rfl); (case hr => first | (go_simp; done) | (go_simp; rfl)); intro gb106 hg w20 hbox hb; have n0_ := Aside0.mk (below_step (BW HB) hb); have n1_ := Aside0.mk (hbox); have n2_ := Aside0.mk ((by rw [hg]; exact (below_size (BW HB)) : w.heap.size ≤ gb106)); have n3_ := Aside0.mk ((by rw [hg]; exact (below_size (BW HB)) : w.heap.size ≤ gb106)); clear HB; have HB := n0_; have BK106 := n1_; have GW106 := n2_; have GE106 := n3_; clear n0_ n1_ n2_ n3_; clear hb hbox hg; obtain ⟨hcz21_0, hcz21_1, hcz21_2, hcz21_3, hcz21_4, hcz21_5, hcz21_6, hcz21_7, hcz21_8, hfz21_0, hfz21_1, hfz21_2, hfz21_3, hfz21_4, hfz21_5, hfz21_6, hfz21_7, hfz21_8⟩ := blk9 BK106.out) | ((with_reducible refine gate_callee (f := 14) rfl ?_); refine goesL_ (some 16) rfl rfl Try.func14 (by kernel_rfl) rfl #[.agg #[.int .i64 a0_0, .int .i64 a0_1, .int .i64 a0_2, .int .i64 a0_3, .int .i64 a0_4, .int .i64 a0_5, .int .u32 a0_6, .int .u32 a0_7, .string a0_8]] rfl AG ?_; (with_reducible refine (ip4_Right.calls a0_0 a0_1 a0_2 a0_3 a0_4 a0_5 a0_6 a0_7 a0_8 false _ A3.out).mono ?_); rintro e w22 ⟨rfl, hb⟩; (try clear A3); refine ⟨_, rfl, ?_⟩; have n0_ := Aside0.mk (blkB BK106 hb); have n1_ := Aside0.mk (below_step (BW HB) hb); clear BK106; clear HB; have BK106 := n0_; have HB := n1_; clear n0_ n1_; (try clear hb); (try clear hb2); (try clear hk); (try clear hi)))
  go_ret2
  exact ⟨RT, BW HB⟩
 subst c4
 first | rw [if_pos rfl] at H | rw [if_pos trivial] at H
 by_cases c5 : (wrap64 ((wrap64 (20 + (a0_8.size : Int))) + (a1.size : Int))) > 1500
 ·rw [if_pos c5] at H
  have c5b0 : decide (1500 < (wrap64 ((wrap64 (20 + (a0_8.size : Int))) + (a1.size : Int)))) = true := decide_eq_true c5
  clear c5
  simp only [Option.some.injEq, Prod.mk.injEq] at H
  obtain ⟨rfl, rfl⟩ := H
  go_enter Try.func11, Try.ntmps11
  go_wp2_with (first | ((with_reducible refine gate_dst (N := 2) rfl ?_); refine box_event ?hg (N := 2) ?hd (cs := #[.int .i64 a0_0, .int .i64 a0_1, .int .i64 a0_2, .int .i64 a0_3, .int .i64 a0_4, .int .i64 a0_5, .int .u32 a0_6, .int .u32 a0_7, .string a0_8]) (t := 24) ?hr ?_; (case hd => rfl); (case hg => rfl); (case hr => first | (go_simp; done) | (go_simp; rfl)); intro gb106 hg w6 hbox hb; have n0_ := Aside0.mk (below_step (BW HB) hb); have n1_ := Aside0.mk (hbox); have n2_ := Aside0.mk ((by rw [hg]; exact (below_size (BW HB)) : w.heap.size ≤ gb106)); have n3_ := Aside0.mk ((by rw [hg]; exact (below_size (BW HB)) : w.heap.size ≤ gb106)); clear HB; have HB := n0_; have BK106 := n1_; have GW106 := n2_; have GE106 := n3_; clear n0_ n1_ n2_ n3_; clear hb hbox hg; obtain ⟨hcz7_0, hcz7_1, hcz7_2, hcz7_3, hcz7_4, hcz7_5, hcz7_6, hcz7_7, hcz7_8, hfz7_0, hfz7_1, hfz7_2, hfz7_3, hfz7_4, hfz7_5, hfz7_6, hfz7_7, hfz7_8⟩ := blk9 BK106.out) | ((with_reducible refine gate_callee (f := 14) rfl ?_); refine goesL_ (some 16) rfl rfl Try.func14 (by kernel_rfl) rfl #[.agg #[.int .i64 a0_0, .int .i64 a0_1, .int .i64 a0_2, .int .i64 a0_3, .int .i64 a0_4, .int .i64 a0_5, .int .u32 a0_6, .int .u32 a0_7, .string a0_8]] rfl AG ?_; (with_reducible refine (ip4_Right.calls a0_0 a0_1 a0_2 a0_3 a0_4 a0_5 a0_6 a0_7 a0_8 true _ A3.out).mono ?_); rintro e w8 ⟨rfl, hb⟩; (try clear A3); refine ⟨_, rfl, ?_⟩; have n0_ := Aside0.mk (blkB BK106 hb); have n1_ := Aside0.mk (below_step (BW HB) hb); clear BK106; clear HB; have BK106 := n0_; have HB := n1_; clear n0_ n1_; (try clear hb); (try clear hb2); (try clear hk); (try clear hi)))
  go_ret2
  exact ⟨RT, BW HB⟩
 rw [if_neg c5] at H
 have c5b0 : decide (1500 < (wrap64 ((wrap64 (20 + (a0_8.size : Int))) + (a1.size : Int)))) = false := decide_eq_false c5
 clear c5
 replace H := Option.bind_eq_some_iff.mp H
 obtain ⟨t108, A90, H⟩ := H
 (try set_option simprocs false in dsimp only at H)
 have A9 := Aside0.mk A90
 clear A90
 replace H := Option.bind_eq_some_iff.mp H
 obtain ⟨t109, A100, H⟩ := H
 (try set_option simprocs false in dsimp only at H)
 have A10 := Aside0.mk A100
 clear A100
 replace H := Option.bind_eq_some_iff.mp H
 obtain ⟨t110, A110, H⟩ := H
 (try set_option simprocs false in dsimp only at H)
 have A11 := Aside0.mk A110
 clear A110
 by_cases c12 : t110.size + a1.size ≤ 9223372036854775807
 rotate_left
 ·rw [if_neg c12] at H
  exact absurd H (by simp)
 rw [if_pos c12] at H
 have c12b0 := eq_true c12
 have c12b1 : decide (t110.size + a1.size ≤ 9223372036854775807) = true := decide_eq_true c12
 try have c12b2 : (9223372036854775807 < t110.size + a1.size) = False := eq_false (Nat.not_lt.2 c12)
 simp only [Option.some.injEq, Prod.mk.injEq] at H
 obtain ⟨rfl, rfl⟩ := H
 go_enter Try.func11, Try.ntmps11
 try go_wp2_with (first | ((with_reducible refine gate_dst (N := 2) rfl ?_); refine box_event ?hg (N := 2) ?hd (cs := #[.int .i64 a0_0, .int .i64 a0_1, .int .i64 a0_2, .int .i64 a0_3, .int .i64 a0_4, .int .i64 a0_5, .int .u32 a0_6, .int .u32 a0_7, .string a0_8]) (t := 24) ?hr ?_; (case hd => rfl); (case hg => rfl); (case hr => first | (go_simp; done) | (go_simp; rfl)); intro gb106 hg w13 hbox hb; have n0_ := Aside0.mk (below_step (BW HB) hb); have n1_ := Aside0.mk (hbox); have n2_ := Aside0.mk ((by rw [hg]; exact (below_size (BW HB)) : w.heap.size ≤ gb106)); have n3_ := Aside0.mk ((by rw [hg]; exact (below_size (BW HB)) : w.heap.size ≤ gb106)); clear HB; have HB := n0_; have BK106 := n1_; have GW106 := n2_; have GE106 := n3_; clear n0_ n1_ n2_ n3_; clear hb hbox hg; obtain ⟨hcz14_0, hcz14_1, hcz14_2, hcz14_3, hcz14_4, hcz14_5, hcz14_6, hcz14_7, hcz14_8, hfz14_0, hfz14_1, hfz14_2, hfz14_3, hfz14_4, hfz14_5, hfz14_6, hfz14_7, hfz14_8⟩ := blk9 BK106.out) | ((with_reducible refine gate_callee (f := 14) rfl ?_); refine goesL_ (some 16) rfl rfl Try.func14 (by kernel_rfl) rfl #[.agg #[.int .i64 a0_0, .int .i64 a0_1, .int .i64 a0_2, .int .i64 a0_3, .int .i64 a0_4, .int .i64 a0_5, .int .u32 a0_6, .int .u32 a0_7, .string a0_8]] rfl AG ?_; (with_reducible refine (ip4_Right.calls a0_0 a0_1 a0_2 a0_3 a0_4 a0_5 a0_6 a0_7 a0_8 true _ A3.out).mono ?_); rintro e w15 ⟨rfl, hb⟩; (try clear A3); refine ⟨_, rfl, ?_⟩; have n0_ := Aside0.mk (blkB BK106 hb); have n1_ := Aside0.mk (below_step (BW HB) hb); clear BK106; clear HB; have BK106 := n0_; have HB := n1_; clear n0_ n1_; (try clear hb); (try clear hb2); (try clear hk); (try clear hi)))
 have n0_ := Aside0.mk (blk_drew BK106.out)
 have n1_ := Aside0.mk (below_drew1 HB.out)
 clear BK106
 clear HB
 have BK106 := n0_
 have HB := n1_
 clear n0_ n1_
 refine start_ (n := 11) (S := fun w' => w'.cell? ⟨gb106, 0, none⟩ = some (.int .i64 a0_0) ∧ w'.cell? ⟨gb106, 1, none⟩ = some (.int .i64 a0_1) ∧ w'.cell? ⟨gb106, 2, none⟩ = some (.int .i64 a0_2) ∧ w'.cell? ⟨gb106, 3, none⟩ = some (.int .i64 a0_3) ∧ w'.cell? ⟨gb106, 4, none⟩ = some (.int .i64 a0_4) ∧ w'.cell? ⟨gb106, 5, none⟩ = some (.int .i64 a0_5) ∧ w'.cell? ⟨gb106, 6, none⟩ = some (.int .u32 a0_6) ∧ w'.cell? ⟨gb106, 7, none⟩ = some (.int .u32 a0_7) ∧ w'.cell? ⟨gb106, 8, none⟩ = some (.string a0_8)) (ds := []) (bm 11 0x0) (by kernel_rfl) rfl rfl ⟨(blk_cell BK106.out 0).trans rfl, (blk_cell BK106.out 1).trans rfl, (blk_cell BK106.out 2).trans rfl, (blk_cell BK106.out 3).trans rfl, (blk_cell BK106.out 4).trans rfl, (blk_cell BK106.out 5).trans rfl, (blk_cell BK106.out 6).trans rfl, (blk_cell BK106.out 7).trans rfl, (blk_cell BK106.out 8).trans rfl⟩ (fun hHeld => ?_); refine with_tabW ip4_Build_p.tab6 ip4_Build_p.bits6 (fun HT_ HW_ => ?_)
 generalize w15.drew = w16 at BK106 HB hHeld ⊢
 refine pure_ (i := 1) (N := some 22) (v := ?_) (a' := ?_) (bm 11 0x2) rfl rfl (any_of HT_.out (by kernel_rfl)) (fun _ _ _ h => h) (Or.inl ⟨by rfl, ?_⟩) ?_ ?_
 rotate_left
 ·intro w'
  go_simp
  with_reducible rfl
 rotate_left
 ·simp only [Act.put, zpA, zpO, zpS, i64_w, i32_w]
  rfl
 refine pure_ (i := 3) (N := some 24) (v := ?_) (a' := ?_) (bm 11 0xa) rfl rfl (any_of HT_.out (by kernel_rfl)) (fun _ _ _ h => h) (Or.inl ⟨by rfl, ?_⟩) ?_ ?_
 rotate_left
 ·intro w'
  go_simp
  with_reducible rfl
 rotate_left
 ·simp only [Act.put, zpA, zpO, zpS, i64_w, i32_w]
  rfl
 refine pure_ (i := 7) (N := some 28) (v := ?_) (a' := ?_) (bm 11 0x8a) rfl rfl (any_of HT_.out (by kernel_rfl)) (fun _ _ _ h => h) (Or.inl ⟨by rfl, ?_⟩) ?_ ?_
 rotate_left
 ·intro w'
  go_simp
  with_reducible rfl
 rotate_left
 ·simp only [Act.put, zpA, zpO, zpS, i64_w, i32_w]
  rfl
 refine take_ (i := 0) (N := some 21) (v := ?_) (a' := ?_) (bm 11 0x8b) rfl rfl (take_ofW HT_.out HW_.out (by kernel_rfl)) (fun _ _ _ h => h) (Or.inl ⟨by rfl, ?_⟩) hHeld ?_ ?_
 rotate_left
 ·rintro w' ⟨s0, s1, s2, s3, s4, s5, s6, s7, s8⟩
  go_simp
  with_reducible rfl
 rotate_left
 ·simp only [Act.put, zpA, zpO, zpS, i64_w, i32_w]
  rfl
 refine take_ (i := 2) (N := some 23) (v := ?_) (a' := ?_) (bm 11 0x8f) rfl rfl (take_ofW HT_.out HW_.out (by kernel_rfl)) (fun _ _ _ h => h) (Or.inl ⟨by rfl, ?_⟩) hHeld ?_ ?_
 rotate_left
 ·rintro w' ⟨s0, s1, s2, s3, s4, s5, s6, s7, s8⟩
  go_simp
  with_reducible rfl
 rotate_left
 ·simp only [Act.put, zpA, zpO, zpS, i64_w, i32_w]
  rfl
 refine one_ (i := 4) (N := some 25) (bm 11 0x9f) rfl rfl (one_of HT_.out (by kernel_rfl)) (by decide) (fun K hK => ?_)
 refine goes_ Try.func23 (by kernel_rfl) rfl #[.agg #[.int .i64 a0_0, .int .i64 a0_1, .int .i64 a0_2, .int .i64 a0_3, .int .i64 a0_4, .int .i64 a0_5, .int .u32 a0_6, .int .u32 a0_7, .string a0_8], .int .i64 (wrap64 ((wrap64 (20 + (a0_8.size : Int))) + (a1.size : Int))), .int .u16 0] (by rfl) rfl rfl (by (try simp only [List.map_toArray, List.map_cons, List.map_nil]); first | done | rfl | (simp only [Int.toNat_natCast]; first | done | rfl) | (rw [Int.toNat_natCast, ByteArray.extract_zero_size]; rfl) | (simp only [List.length_drop, List.length_take]; rfl)) ?_
 with_reducible refine (ip4_Header_bytes.calls a0_0 a0_1 a0_2 a0_3 a0_4 a0_5 a0_6 a0_7 a0_8 (wrap64 ((wrap64 (20 + (a0_8.size : Int))) + (a1.size : Int))) 0 t108 _ A9.out).mono ?_
 rintro e w17 ⟨rfl, hb⟩
 refine ⟨_, rfl, ?_⟩
 have n0_ := Aside0.mk (blkB BK106 hb)
 have n1_ := Aside0.mk (below_step (BW HB) hb)
 clear BK106
 clear HB
 have BK106 := n0_
 have HB := n1_
 clear n0_ n1_
 (try clear hb)
 (try clear hb2)
 (try clear hk)
 (try clear hi)
 refine hK.out _ _ ⟨(blk_cell BK106.out 0).trans rfl, (blk_cell BK106.out 1).trans rfl, (blk_cell BK106.out 2).trans rfl, (blk_cell BK106.out 3).trans rfl, (blk_cell BK106.out 4).trans rfl, (blk_cell BK106.out 5).trans rfl, (blk_cell BK106.out 6).trans rfl, (blk_cell BK106.out 7).trans rfl, (blk_cell BK106.out 8).trans rfl⟩ (fun hHeld => ?_)
 clear hK K
 refine norm_ (a' := ?_) ?_ ?_
 rotate_left
 ·show Act.put _ (some 25) _ = _
  simp only [Act.put, zpA, zpO, zpS, i64_w, i32_w]
  rfl
 refine one_ (i := 5) (N := some 26) (bm 11 0xbf) rfl rfl (one_of HT_.out (by kernel_rfl)) (by decide) (fun K hK => ?_)
 refine goes_ Try.func24 (by kernel_rfl) rfl #[.string t108] (by rfl) rfl rfl (by (try simp only [List.map_toArray, List.map_cons, List.map_nil]); first | done | rfl | (simp only [Int.toNat_natCast]; first | done | rfl) | (rw [Int.toNat_natCast, ByteArray.extract_zero_size]; rfl) | (simp only [List.length_drop, List.length_take]; rfl)) ?_
 with_reducible refine (cksum_Check.calls t108 t109 _ A10.out).mono ?_
 rintro e w18 ⟨rfl, hb⟩
 refine ⟨_, rfl, ?_⟩
 have n0_ := Aside0.mk (blkB BK106 hb)
 have n1_ := Aside0.mk (below_step (BW HB) hb)
 clear BK106
 clear HB
 have BK106 := n0_
 have HB := n1_
 clear n0_ n1_
 (try clear hb)
 (try clear hb2)
 (try clear hk)
 (try clear hi)
 refine hK.out _ _ ⟨(blk_cell BK106.out 0).trans rfl, (blk_cell BK106.out 1).trans rfl, (blk_cell BK106.out 2).trans rfl, (blk_cell BK106.out 3).trans rfl, (blk_cell BK106.out 4).trans rfl, (blk_cell BK106.out 5).trans rfl, (blk_cell BK106.out 6).trans rfl, (blk_cell BK106.out 7).trans rfl, (blk_cell BK106.out 8).trans rfl⟩ (fun hHeld => ?_)
 clear hK K
 refine norm_ (a' := ?_) ?_ ?_
 rotate_left
 ·show Act.put _ (some 26) _ = _
  simp only [Act.put, zpA, zpO, zpS, i64_w, i32_w]
  rfl
 refine one_ (i := 6) (N := some 27) (bm 11 0xff) rfl rfl (one_of HT_.out (by kernel_rfl)) (by decide) (fun K hK => ?_)
 refine goes_ Try.func23 (by kernel_rfl) rfl #[.agg #[.int .i64 a0_0, .int .i64 a0_1, .int .i64 a0_2, .int .i64 a0_3, .int .i64 a0_4, .int .i64 a0_5, .int .u32 a0_6, .int .u32 a0_7, .string a0_8], .int .i64 (wrap64 ((wrap64 (20 + (a0_8.size : Int))) + (a1.size : Int))), .int .u16 t109] (by rfl) rfl rfl (by (try simp only [List.map_toArray, List.map_cons, List.map_nil]); first | done | rfl | (simp only [Int.toNat_natCast]; first | done | rfl) | (rw [Int.toNat_natCast, ByteArray.extract_zero_size]; rfl) | (simp only [List.length_drop, List.length_take]; rfl)) ?_
 with_reducible refine (ip4_Header_bytes.calls a0_0 a0_1 a0_2 a0_3 a0_4 a0_5 a0_6 a0_7 a0_8 (wrap64 ((wrap64 (20 + (a0_8.size : Int))) + (a1.size : Int))) t109 t110 _ A11.out).mono ?_
 rintro e w19 ⟨rfl, hb⟩
 refine ⟨_, rfl, ?_⟩
 have n0_ := Aside0.mk (blkB BK106 hb)
 have n1_ := Aside0.mk (below_step (BW HB) hb)
 clear BK106
 clear HB
 have BK106 := n0_
 have HB := n1_
 clear n0_ n1_
 (try clear hb)
 (try clear hb2)
 (try clear hk)
 (try clear hi)
 refine hK.out _ _ ⟨(blk_cell BK106.out 0).trans rfl, (blk_cell BK106.out 1).trans rfl, (blk_cell BK106.out 2).trans rfl, (blk_cell BK106.out 3).trans rfl, (blk_cell BK106.out 4).trans rfl, (blk_cell BK106.out 5).trans rfl, (blk_cell BK106.out 6).trans rfl, (blk_cell BK106.out 7).trans rfl, (blk_cell BK106.out 8).trans rfl⟩ (fun hHeld => ?_)
 clear hK K
 refine norm_ (a' := ?_) ?_ ?_
 rotate_left
 ·show Act.put _ (some 27) _ = _
  simp only [Act.put, zpA, zpO, zpS, i64_w, i32_w]
  rfl
 refine pure_ (i := 8) (N := some 29) (v := ?_) (a' := ?_) (bm 11 0x1ff) rfl rfl (any_of HT_.out (by kernel_rfl)) (fun _ _ _ h => h) (Or.inl ⟨by rfl, ?_⟩) ?_ ?_
 rotate_left
 ·intro w'
  go_simp
  with_reducible rfl
 rotate_left
 ·simp only [Act.put, zpA, zpO, zpS, i64_w, i32_w]
  rfl
 refine pure_ (i := 9) (N := some 4) (v := ?_) (a' := ?_) (bm 11 0x3ff) rfl rfl (any_of HT_.out (by kernel_rfl)) (fun _ _ _ h => h) (Or.inl ⟨by rfl, ?_⟩) ?_ ?_
 rotate_left
 ·intro w'
  go_simp
  with_reducible rfl
 rotate_left
 ·simp only [Act.put, zpA, zpO, zpS, i64_w, i32_w]
  rfl
 refine pure_ (i := 10) (N := some 5) (v := ?_) (a' := ?_) (bm 11 0x7ff) rfl rfl (any_of HT_.out (by kernel_rfl)) (fun _ _ _ h => h) (Or.inl ⟨by rfl, ?_⟩) ?_ ?_
 rotate_left
 ·intro w'
  go_simp
  with_reducible rfl
 rotate_left
 ·simp only [Act.put, zpA, zpO, zpS, i64_w, i32_w]
  rfl
 refine done_ (done_of HT_.out (by kernel_rfl)) ?_
 try go_wp2
 go_ret2
 exact ⟨RT, BW HB⟩

def ip4_Build.f (a0_0 a0_1 a0_2 a0_3 a0_4 a0_5 a0_6 a0_7 : Int) (a0_8 : ByteArray) (a1 : ByteArray) : Option (ByteArray × Int) := if (0 ≤ a0_6 ∧ a0_6 ≤ 4294967295) ∧ (0 ≤ a0_7 ∧ a0_7 ≤ 4294967295) ∧ a0_8.size ≤ 140737488355328 ∧ a1.size ≤ 140737488355328 then some (lb (Sp.ip4Build a0_0 a0_1 a0_2 a0_3 a0_4 a0_5 a0_6 a0_7 (bl a0_8) (bl a1)).1, (Sp.ip4Build a0_0 a0_1 a0_2 a0_3 a0_4 a0_5 a0_6 a0_7 (bl a0_8) (bl a1)).2) else none
theorem ip4_Build_eq {a0_0 a0_1 a0_2 a0_3 a0_4 a0_5 a0_6 a0_7 : Int} {a0_8 a1 : ByteArray} (h0 : 0 ≤ a0_6 ∧ a0_6 ≤ 4294967295) (h1 : 0 ≤ a0_7 ∧ a0_7 ≤ 4294967295) (h2 : a0_8.size ≤ 140737488355328) (h3 : a1.size ≤ 140737488355328) : ip4_Build.f a0_0 a0_1 a0_2 a0_3 a0_4 a0_5 a0_6 a0_7 a0_8 a1 = some (lb (Sp.ip4Build a0_0 a0_1 a0_2 a0_3 a0_4 a0_5 a0_6 a0_7 (bl a0_8) (bl a1)).1, (Sp.ip4Build a0_0 a0_1 a0_2 a0_3 a0_4 a0_5 a0_6 a0_7 (bl a0_8) (bl a1)).2) := by unfold ip4_Build.f; exact if_pos ⟨h0, h1, h2, h3⟩
theorem ip4_Build_ev (a0_0 a0_1 a0_2 a0_3 a0_4 a0_5 a0_6 a0_7 : Int) (a0_8 a1 : ByteArray) (r : ByteArray × Int) (h : ip4_Build.f a0_0 a0_1 a0_2 a0_3 a0_4 a0_5 a0_6 a0_7 a0_8 a1 = some r) : ip4_Build_p.f a0_0 a0_1 a0_2 a0_3 a0_4 a0_5 a0_6 a0_7 a0_8 a1 = some r := by
 unfold ip4_Build.f at h
 split at h
 case isFalse => cases h
 case isTrue hs =>
  obtain ⟨s6, s7, s8, s1⟩ := hs
  rw [← h]
  unfold ip4_Build_p.f Sp.ip4Build
  rw [ip4_Right_eq s8, Option.bind_some]
  have hl := bl_length a0_8
  have hb := bl_length a1
  by_cases hr : Sp.ip4Right a0_0 a0_1 a0_2 a0_3 a0_4 a0_5 (bl a0_8) = true
  ·have hol := (Sp.ip4Right_iff.1 hr).2.2.2.2.2.2.1
   rw [if_pos hr, if_pos hr, wrap_id (n := 20 + (a0_8.size : Int)) (by omega) (by omega), wrap_id (n := 20 + (a0_8.size : Int) + (a1.size : Int)) (by omega) (by omega), hl, hb]
   by_cases hz : 20 + (a0_8.size : Int) + (a1.size : Int) > 1500
   ·rw [if_pos hz, if_pos hz]; rfl
   ·have hc := Sp.sum_bounds (Sp.ip4Head a0_0 a0_1 a0_2 a0_3 a0_4 a0_5 a0_6 a0_7 (bl a0_8) (20 + (a0_8.size : Int) + (a1.size : Int)) 0)
    rw [if_neg hz, if_neg hz, ip4_Header_bytes.f, if_pos ⟨hr, s6, s7, ⟨by omega, by omega⟩, ⟨by omega, by omega⟩⟩, Option.bind_some, cksum_Check_eq (by rw [lb_size, Sp.ip4Head_length]; omega), Option.bind_some, Sp.bl_lb, ip4_Header_bytes.f,
     if_pos ⟨hr, s6, s7, ⟨by omega, by omega⟩, by unfold Sp.check; omega⟩, Option.bind_some, if_pos (by rw [lb_size, Sp.ip4Head_length]; omega)]
    rw [show lb (Sp.ip4Head a0_0 a0_1 a0_2 a0_3 a0_4 a0_5 a0_6 a0_7 (bl a0_8) (20 + (a0_8.size : Int) + (a1.size : Int)) (Sp.check (Sp.ip4Head a0_0 a0_1 a0_2 a0_3 a0_4 a0_5 a0_6 a0_7 (bl a0_8) (20 + (a0_8.size : Int) + (a1.size : Int)) 0))) ++ a1 = lb (Sp.ip4Full a0_0 a0_1 a0_2 a0_3 a0_4 a0_5 a0_6 a0_7 (bl a0_8) (20 + (a0_8.size : Int) + (a1.size : Int)) ++ bl a1) from Sp.bl_inj (by simp only [Sp.bl_append, Sp.bl_lb]; rfl)]
  ·rw [if_neg hr, if_neg hr]; rfl
theorem ip4_Build.calls (a0_0 : Int) (a0_1 : Int) (a0_2 : Int) (a0_3 : Int) (a0_4 : Int) (a0_5 : Int) (a0_6 : Int) (a0_7 : Int) (a0_8 : ByteArray) (a1 : ByteArray) (r1 : ByteArray) (r2 : Int) (w : World) (h : ip4_Build.f a0_0 a0_1 a0_2 a0_3 a0_4 a0_5 a0_6 a0_7 a0_8 a1 = some (r1, r2)) :
  Calls Try.prog 11 #[.agg #[.int .i64 a0_0, .int .i64 a0_1, .int .i64 a0_2, .int .i64 a0_3, .int .i64 a0_4, .int .i64 a0_5, .int .u32 a0_6, .int .u32 a0_7, .string a0_8], .string a1] w fun e w' => e = .returned (.tuple #[.string r1, .int .i64 r2]) ∧ Below w.heap.size w w' := by
 have hk := ip4_Build_ev a0_0 a0_1 a0_2 a0_3 a0_4 a0_5 a0_6 a0_7 a0_8 a1 _ h
 exact ip4_Build_p.calls a0_0 a0_1 a0_2 a0_3 a0_4 a0_5 a0_6 a0_7 a0_8 a1 r1 r2 w hk

/-! ### ip4_sizes_p: function 29 -/
mutual
def ip4_sizes_p.j0 : Nat → ByteArray → Int → Int → Bool → Option (Int × Int × Int)
 | 0, _, _, _, _ => none
 | k + 1, x0, x2, x3, x25 => if x25 = true then (some (0, 0, 4)) else (if x3 < x2 then (ip4_sizes_p.j1 k x2 x3 true) else (ip4_sizes_p.j1 k x2 x3 (decide (x3 > (x0.size : Int)))))
def ip4_sizes_p.j1 : Nat → Int → Int → Bool → Option (Int × Int × Int)
 | 0, _, _, _ => none
 | k + 1, x2, x3, x34 => if x34 = true then (some (0, 0, 5)) else (if x3 > 1500 then (some (0, 0, 18)) else (some (x2, x3, 0)))
end
def ip4_sizes_p.f (k : Nat) (a0 : ByteArray) : Option (Int × Int × Int) := if (a0.size : Int) < 20 then (some (0, 0, 2)) else (if 0 < (a0.size : Int) then ((octet_Get.f a0 2 2).bind fun bt111 => (if ((bt a0 0) / 16) = 4 then (if (wrap64 ((wrap64 (Go.bits .and .u8 (bt a0 0) 15)) * 4)) < 20 then (ip4_sizes_p.j0 k a0 (wrap64 ((wrap64 (Go.bits .and .u8 (bt a0 0) 15)) * 4)) bt111.1 true) else (ip4_sizes_p.j0 k a0 (wrap64 ((wrap64 (Go.bits .and .u8 (bt a0 0) 15)) * 4)) bt111.1 (decide ((wrap64 ((wrap64 (Go.bits .and .u8 (bt a0 0) 15)) * 4)) > (a0.size : Int))))) else (some (0, 0, 3)))) else (none))
theorem ip4_sizes_p.mono_l : ∀ k, (∀ y0 y1 y2 y3, LeO (ip4_sizes_p.j0 k y0 y1 y2 y3) (ip4_sizes_p.j0 (k + 1) y0 y1 y2 y3)) ∧ (∀ y0 y1 y2, LeO (ip4_sizes_p.j1 k y0 y1 y2) (ip4_sizes_p.j1 (k + 1) y0 y1 y2))
 | 0 => ⟨fun _ _ _ _ r h => by simp [ip4_sizes_p.j0] at h, fun _ _ _ r h => by simp [ip4_sizes_p.j1] at h⟩
 | k + 1 => by
  obtain ⟨ih0, ih1⟩ := ip4_sizes_p.mono_l k
  refine ⟨?_, ?_⟩
  ·intro y0 y1 y2 y3
   unfold ip4_sizes_p.j0
   repeat' first
   | (with_reducible exact ih0 _ _ _ _)
   | (with_reducible exact ih1 _ _ _)
   | (with_reducible exact LeO.refl _)
   | (with_reducible exact LeO.none _)
   | (with_reducible refine LeO.ite ?_ ?_)
   | (with_reducible refine LeO.bind ?_ (fun _ => ?_))
   | exact ih0 _ _ _ _
   | exact ih1 _ _ _
   | exact LeO.none _
   | refine LeO.ite ?_ ?_
   | refine LeO.bind ?_ (fun _ => ?_)
  ·intro y0 y1 y2
   unfold ip4_sizes_p.j1
   repeat' first
   | (with_reducible exact ih0 _ _ _ _)
   | (with_reducible exact ih1 _ _ _)
   | (with_reducible exact LeO.refl _)
   | (with_reducible exact LeO.none _)
   | (with_reducible refine LeO.ite ?_ ?_)
   | (with_reducible refine LeO.bind ?_ (fun _ => ?_))
   | exact ih0 _ _ _ _
   | exact ih1 _ _ _
   | exact LeO.none _
   | refine LeO.ite ?_ ?_
   | refine LeO.bind ?_ (fun _ => ?_)
theorem ip4_sizes_p.mono : ∀ a0 k, LeO (ip4_sizes_p.f k a0) (ip4_sizes_p.f (k + 1) a0) := by
 intro a0 k
 obtain ⟨ih0, ih1⟩ := ip4_sizes_p.mono_l k
 unfold ip4_sizes_p.f
 repeat' first
   | (with_reducible exact ih0 _ _ _ _)
   | (with_reducible exact ih1 _ _ _)
   | (with_reducible exact LeO.refl _)
   | (with_reducible exact LeO.none _)
   | (with_reducible refine LeO.ite ?_ ?_)
   | (with_reducible refine LeO.bind ?_ (fun _ => ?_))
   | exact ih0 _ _ _ _
   | exact ih1 _ _ _
   | exact LeO.none _
   | refine LeO.ite ?_ ?_
   | refine LeO.bind ?_ (fun _ => ?_)
set_option maxHeartbeats 8000000 in
set_option maxRecDepth 100000 in
theorem ip4_sizes_p.calls (k : Nat) (a0 : ByteArray) (r1 : Int) (r2 : Int) (r3 : Int) (w : World) (h : ip4_sizes_p.f k a0 = some (r1, r2, r3)) :
  Calls Try.prog 29 #[.string a0] w fun e w' => e = .returned (.tuple #[.int .i64 r1, .int .i64 r2, .int .i64 r3]) ∧ Below w.heap.size w w' := by
 have HB := Aside0.mk (Below.refl w.heap.size w)
 have H : (if (a0.size : Int) < 20 then (some (0, 0, 2)) else (if 0 < (a0.size : Int) then ((octet_Get.f a0 2 2).bind fun bt111 => (if ((bt a0 0) / 16) = 4 then (if (wrap64 ((wrap64 (Go.bits .and .u8 (bt a0 0) 15)) * 4)) < 20 then (ip4_sizes_p.j0 k a0 (wrap64 ((wrap64 (Go.bits .and .u8 (bt a0 0) 15)) * 4)) bt111.1 true) else (ip4_sizes_p.j0 k a0 (wrap64 ((wrap64 (Go.bits .and .u8 (bt a0 0) 15)) * 4)) bt111.1 (decide ((wrap64 ((wrap64 (Go.bits .and .u8 (bt a0 0) 15)) * 4)) > (a0.size : Int))))) else (some (0, 0, 3)))) else (none))) = some (r1, r2, r3) := h
 clear h
 by_cases c2 : (a0.size : Int) < 20
 ·rw [if_pos c2] at H
  have c2b0 : decide ((a0.size : Int) < 20) = true := decide_eq_true c2
  have c2b1 : decide (a0.size < 20) = true := decide_eq_true (by omega)
  clear c2
  simp only [Option.some.injEq, Prod.mk.injEq] at H
  obtain ⟨rfl, rfl, rfl⟩ := H
  go_enter Try.func29, Try.ntmps29
  go_wp2
  go_ret3
  exact ⟨RT, BW HB⟩
 rw [if_neg c2] at H
 have c2b0 : decide ((a0.size : Int) < 20) = false := decide_eq_false c2
 have c2b1 : decide (a0.size < 20) = false := decide_eq_false (by omega)
 clear c2
 by_cases c3 : 0 < (a0.size : Int)
 rotate_left
 ·rw [if_neg c3] at H
  exact absurd H (by simp)
 rw [if_pos c3] at H
 have c3b0 : decide (0 < (a0.size : Int)) = true := decide_eq_true c3
 have c3b1 : decide (0 < a0.size) = true := decide_eq_true (by omega)
 clear c3
 replace H := Option.bind_eq_some_iff.mp H
 obtain ⟨⟨t111, t112⟩, A50, H⟩ := H
 (try set_option simprocs false in dsimp only at H)
 have A5 := Aside0.mk A50
 clear A50
 by_cases c7 : ((bt a0 0) / 16) = 4
 rotate_left
 ·rw [if_neg c7] at H
  have c7b0 : (((bt a0 0) / 16) == 4) = false := beq_eq_false_iff_ne.mpr c7
  have c7b1 : (((bt a0 0) / 16) != 4) = true := bne_iff_ne.mpr c7
  simp only [Option.some.injEq, Prod.mk.injEq] at H
  obtain ⟨rfl, rfl, rfl⟩ := H
  have p4 : 0 ≤ (0 : Int) := (by omega)
  have q4 : 0 < a0.size := (by have : (0 : Int) < (a0.size : Int) := of_decide_eq_true (by first | (with_reducible assumption) | assumption); omega)
  have hx4 : ∀ h : 0 < a0.size, ((a0[0]'h).toNat : Int) = bt a0 0 := bt_at a0 0
  clear p4
  have qi4 : (0 < (a0.size : Int)) = True := eq_true (of_decide_eq_true (by first | (with_reducible assumption) | assumption))
  replace q4 := eq_true q4
  go_enter Try.func29, Try.ntmps29
  go_wp2_with (first | ((with_reducible refine gate_callee (f := 31) rfl ?_); refine goesL_ (some 15) rfl rfl Try.func31 (by kernel_rfl) rfl #[.string a0, .int .i64 2, .int .i64 2] rfl AG ?_; (with_reducible refine (octet_Get.calls a0 2 2 t111 t112 _ A5.out).mono ?_); rintro e w16 ⟨rfl, hb⟩; (try clear A5); refine ⟨_, rfl, ?_⟩; have n0_ := Aside0.mk (below_step (BW HB) hb); clear HB; have HB := n0_; clear n0_; (try clear hb); (try clear hb2); (try clear hk); (try clear hi); have p6 : 0 ≤ (0 : Int) := (by omega); have q6 : 0 < a0.size := (by have : (0 : Int) < (a0.size : Int) := of_decide_eq_true (by first | (with_reducible assumption) | assumption); omega); have hx6 : ∀ h : 0 < a0.size, ((a0[0]'h).toNat : Int) = bt a0 0 := bt_at a0 0; clear p6; have qi6 : (0 < (a0.size : Int)) = True := eq_true (of_decide_eq_true (by first | (with_reducible assumption) | assumption)); replace q6 := eq_true q6))
  go_ret3
  exact ⟨RT, BW HB⟩
 rw [if_pos c7] at H
 have c7b0 : (((bt a0 0) / 16) == 4) = true := beq_iff_eq.mpr c7
 have c7b1 : (((bt a0 0) / 16) != 4) = false := bne_eq_false_iff_eq.mpr c7
 clear c7
 have HC8 := Aside0.mk H
 clear H
 have p4 : 0 ≤ (0 : Int) := (by omega)
 have q4 : 0 < a0.size := (by have : (0 : Int) < (a0.size : Int) := of_decide_eq_true (by first | (with_reducible assumption) | assumption); omega)
 have hx4 : ∀ h : 0 < a0.size, ((a0[0]'h).toNat : Int) = bt a0 0 := bt_at a0 0
 clear p4
 have qi4 : (0 < (a0.size : Int)) = True := eq_true (of_decide_eq_true (by first | (with_reducible assumption) | assumption))
 replace q4 := eq_true q4
 go_enter Try.func29, Try.ntmps29
 go_upto_region 8 with (first | ((with_reducible refine gate_callee (f := 31) rfl ?_); refine goesL_ (some 15) rfl rfl Try.func31 (by kernel_rfl) rfl #[.string a0, .int .i64 2, .int .i64 2] rfl AG ?_; (with_reducible refine (octet_Get.calls a0 2 2 t111 t112 _ A5.out).mono ?_); rintro e w9 ⟨rfl, hb⟩; refine ⟨_, rfl, ?_⟩; have n0_ := Aside0.mk (below_step (BW HB) hb); clear HB; have HB := n0_; clear n0_; (try clear hb); (try clear hb2); (try clear hk); (try clear hi); have p6 : 0 ≤ (0 : Int) := (by omega); have q6 : 0 < a0.size := (by have : (0 : Int) < (a0.size : Int) := of_decide_eq_true (by first | (with_reducible assumption) | assumption); omega); have hx6 : ∀ h : 0 < a0.size, ((a0[0]'h).toNat : Int) = bt a0 0 := bt_at a0 0; clear p6; have qi6 : (0 < (a0.size : Int)) = True := eq_true (of_decide_eq_true (by first | (with_reducible assumption) | assumption)); replace q6 := eq_true q6))
 (try simp only [Act.put, List.setIfInBounds_toArray, List.set_cons_zero, List.set_cons_succ])
 go_cut [25] (fun v25 wc => ∃ (kq : Nat) (x25_7 : Bool), v25 = .bool x25_7 ∧ Aside0 (ip4_sizes_p.j0 kq a0 (wrap64 ((wrap64 (Go.bits .and .u8 (bt a0 0) 15)) * 4)) t111 x25_7 = some (r1, r2, r3)) ∧ Aside0 (kq ≤ k) ∧ Aside0 (Below w.heap.size w wc))
 case first =>
  have H := HC8.out
  clear HC8
  by_cases c10 : (wrap64 ((wrap64 (Go.bits .and .u8 (bt a0 0) 15)) * 4)) < 20
  ·rw [if_pos c10] at H
   have c10b0 : decide ((wrap64 ((wrap64 (Go.bits .and .u8 (bt a0 0) 15)) * 4)) < 20) = true := decide_eq_true c10
   clear c10
   (first | rw [c10b0] | (simp only [i64_w, i32_w]; rw [c10b0]) | skip)
   have H' := Aside0.mk H
   clear H
   go_wp2
   go_meet
   case rel => exact ⟨_, (true), (by first | rfl | (simp; done) | (congr 2; simp only [ByteArray.size_extract, ByteArray.size_append]; (try unfold wrap64); omega) | (simp only [ByteArray.size_extract, ByteArray.size_append, Nat.sub_zero]; done) | (congr 1; simp only [ByteArray.size_extract, ByteArray.size_append, Nat.sub_zero]; omega) | (simp [*]; done)), H', ⟨by first | omega | exact Nat.le_refl _⟩, ⟨BW HB⟩⟩
  ·rw [if_neg c10] at H
   have c10b0 : decide ((wrap64 ((wrap64 (Go.bits .and .u8 (bt a0 0) 15)) * 4)) < 20) = false := decide_eq_false c10
   clear c10
   (first | rw [c10b0] | (simp only [i64_w, i32_w]; rw [c10b0]) | skip)
   have H' := Aside0.mk H
   clear H
   go_wp2
   go_meet
   case rel => exact ⟨_, (decide ((wrap64 ((wrap64 (Go.bits .and .u8 (bt a0 0) 15)) * 4)) > (a0.size : Int))), (by first | rfl | (simp; done) | (congr 2; simp only [ByteArray.size_extract, ByteArray.size_append]; (try unfold wrap64); omega) | (simp only [ByteArray.size_extract, ByteArray.size_append, Nat.sub_zero]; done) | (congr 1; simp only [ByteArray.size_extract, ByteArray.size_append, Nat.sub_zero]; omega) | (simp [*]; done)), H', ⟨by first | omega | exact Nat.le_refl _⟩, ⟨BW HB⟩⟩
 case rest =>
  clear HC8
  try clear c1
  try clear c2
  try clear c2b0
  try clear c2b1
  try clear p2
  try clear c3
  try clear c3b0
  try clear c3b1
  try clear p4
  try clear q4
  try clear hx4
  try clear qi4
  try clear p6
  try clear q6
  try clear hx6
  try clear qi6
  try clear c7
  try clear c7b0
  try clear c7b1
  try clear c10
  try clear c10b0
  try clear p4
  try clear p6
  try clear q4
  try clear q6
  obtain ⟨kq, x25_7, rfl, HA, HJ7, HB⟩ := hcut
  cases kq with
  | zero => exact absurd HA.out (by simp [ip4_sizes_p.j0])
  | succ kj7 =>
   have H := HA.out
   clear HA
   simp only [ip4_sizes_p.j0] at H
   by_cases c11 : x25_7 = true
   ·subst c11
    first | rw [if_pos rfl] at H | rw [if_pos trivial] at H
    simp only [Option.some.injEq, Prod.mk.injEq] at H
    obtain ⟨rfl, rfl, rfl⟩ := H
    go_wp2
    go_ret3
    exact ⟨RT, BW HB⟩
   ·replace c11 := Bool.eq_false_iff.mpr c11
    subst c11
    have H1 : (if t111 < (wrap64 ((wrap64 (Go.bits .and .u8 (bt a0 0) 15)) * 4)) then (ip4_sizes_p.j1 kj7 (wrap64 ((wrap64 (Go.bits .and .u8 (bt a0 0) 15)) * 4)) t111 true) else (ip4_sizes_p.j1 kj7 (wrap64 ((wrap64 (Go.bits .and .u8 (bt a0 0) 15)) * 4)) t111 (decide (t111 > (a0.size : Int))))) = some (r1, r2, r3) := by rw [if_neg (show ¬ (false = true) by decide)] at H; exact H
    clear H
    have H := H1
    clear H1
    have HC12 := Aside0.mk H
    clear H
    go_upto_region 10 with (fail)
    go_cut [34] (fun v34 wc => ∃ (kq : Nat) (x34_11 : Bool), v34 = .bool x34_11 ∧ Aside0 (ip4_sizes_p.j1 kq (wrap64 ((wrap64 (Go.bits .and .u8 (bt a0 0) 15)) * 4)) t111 x34_11 = some (r1, r2, r3)) ∧ Aside0 (kq ≤ kj7) ∧ Aside0 (Below w.heap.size w wc))
    case first =>
     have H := HC12.out
     clear HC12
     by_cases c13 : t111 < (wrap64 ((wrap64 (Go.bits .and .u8 (bt a0 0) 15)) * 4))
     ·rw [if_pos c13] at H
      have c13b0 : decide (t111 < (wrap64 ((wrap64 (Go.bits .and .u8 (bt a0 0) 15)) * 4))) = true := decide_eq_true c13
      clear c13
      (first | rw [c13b0] | (simp only [i64_w, i32_w]; rw [c13b0]) | skip)
      have H' := Aside0.mk H
      clear H
      go_wp2
      go_meet
      case rel => exact ⟨_, (true), (by first | rfl | (simp; done) | (congr 2; simp only [ByteArray.size_extract, ByteArray.size_append]; (try unfold wrap64); omega) | (simp only [ByteArray.size_extract, ByteArray.size_append, Nat.sub_zero]; done) | (congr 1; simp only [ByteArray.size_extract, ByteArray.size_append, Nat.sub_zero]; omega) | (simp [*]; done)), H', ⟨by have := HJ7.out; first | omega | exact Nat.le_refl _⟩, ⟨BW HB⟩⟩
     ·rw [if_neg c13] at H
      have c13b0 : decide (t111 < (wrap64 ((wrap64 (Go.bits .and .u8 (bt a0 0) 15)) * 4))) = false := decide_eq_false c13
      clear c13
      (first | rw [c13b0] | (simp only [i64_w, i32_w]; rw [c13b0]) | skip)
      have H' := Aside0.mk H
      clear H
      go_wp2
      go_meet
      case rel => exact ⟨_, (decide (t111 > (a0.size : Int))), (by first | rfl | (simp; done) | (congr 2; simp only [ByteArray.size_extract, ByteArray.size_append]; (try unfold wrap64); omega) | (simp only [ByteArray.size_extract, ByteArray.size_append, Nat.sub_zero]; done) | (congr 1; simp only [ByteArray.size_extract, ByteArray.size_append, Nat.sub_zero]; omega) | (simp [*]; done)), H', ⟨by have := HJ7.out; first | omega | exact Nat.le_refl _⟩, ⟨BW HB⟩⟩
    case rest =>
     clear HC12
     try clear c1
     try clear c2
     try clear c2b0
     try clear c2b1
     try clear p2
     try clear c3
     try clear c3b0
     try clear c3b1
     try clear p4
     try clear q4
     try clear hx4
     try clear qi4
     try clear p6
     try clear q6
     try clear hx6
     try clear qi6
     try clear c7
     try clear c7b0
     try clear c7b1
     try clear c10
     try clear c10b0
     try clear c11
     try clear c13
     try clear c13b0
     try clear p2
     try clear p4
     try clear p6
     try clear q4
     try clear q6
     obtain ⟨kq, x34_11, rfl, HA, HJ11, HB⟩ := hcut
     cases kq with
     | zero => exact absurd HA.out (by simp [ip4_sizes_p.j1])
     | succ kj11 =>
      have H := HA.out
      clear HA
      simp only [ip4_sizes_p.j1] at H
      by_cases c14 : x34_11 = true
      ·subst c14
       first | rw [if_pos rfl] at H | rw [if_pos trivial] at H
       simp only [Option.some.injEq, Prod.mk.injEq] at H
       obtain ⟨rfl, rfl, rfl⟩ := H
       go_wp2
       go_ret3
       exact ⟨RT, BW HB⟩
      ·replace c14 := Bool.eq_false_iff.mpr c14
       subst c14
       have H1 : (if t111 > 1500 then (some (0, 0, 18)) else (some ((wrap64 ((wrap64 (Go.bits .and .u8 (bt a0 0) 15)) * 4)), t111, 0))) = some (r1, r2, r3) := by rw [if_neg (show ¬ (false = true) by decide)] at H; exact H
       clear H
       have H := H1
       clear H1
       by_cases c15 : t111 > 1500
       ·rw [if_pos c15] at H
        have c15b0 : decide (1500 < t111) = true := decide_eq_true c15
        clear c15
        simp only [Option.some.injEq, Prod.mk.injEq] at H
        obtain ⟨rfl, rfl, rfl⟩ := H
        go_wp2
        go_ret3
        exact ⟨RT, BW HB⟩
       ·rw [if_neg c15] at H
        have c15b0 : decide (1500 < t111) = false := decide_eq_false c15
        clear c15
        simp only [Option.some.injEq, Prod.mk.injEq] at H
        obtain ⟨rfl, rfl, rfl⟩ := H
        go_wp2
        go_ret3
        exact ⟨RT, BW HB⟩

theorem i4_and15 : ∀ x : Fin 256, Go.bits .and .u8 (x.val : Int) 15 = (x.val : Int) % 16 := by decide +kernel
theorem i4_b0 {s : ByteArray} (h : 0 < s.size) : bt s 0 = Sp.ip4B0 (bl s) := by
 rcases e : bl s with _ | ⟨x, r⟩
 ·have := bl_length s; rw [e] at this; simp at this; omega
 rw [i4_bt0 e]; rfl
def ip4_sizes.f (a0 : ByteArray) : Option (Int × Int × Int) := if a0.size ≤ 140737488355328 then some (Sp.ip4Sizes (bl a0)) else none
theorem ip4_sizes_eq {a0 : ByteArray} (h : a0.size ≤ 140737488355328) : ip4_sizes.f a0 = some (Sp.ip4Sizes (bl a0)) := by unfold ip4_sizes.f; exact if_pos h
theorem ip4_sizes_ev (a0 : ByteArray) (r : Int × Int × Int) (h : ip4_sizes.f a0 = some r) : ∃ k, ip4_sizes_p.f k a0 = some r := by
 unfold ip4_sizes.f at h
 split at h
 case isFalse => cases h
 case isTrue hs =>
  refine ⟨2, ?_⟩
  rw [← h]
  have hl := bl_length a0
  unfold ip4_sizes_p.f Sp.ip4Sizes
  rw [hl]
  by_cases h1 : (a0.size : Int) < 20
  ·rw [if_pos h1, if_pos h1]
  ·rw [if_neg h1, if_neg h1, if_pos (by omega), octet_Get_eq _ _ _ (by omega), Option.bind_some, i4_b0 (by omega)]
   have hB := Sp.ip4B0_bounds (bl a0)
   have e15 : Go.bits .and .u8 (Sp.ip4B0 (bl a0)) 15 = Sp.ip4B0 (bl a0) % 16 := by
    have := i4_and15 ⟨(Sp.ip4B0 (bl a0)).toNat, by omega⟩
    rwa [show (((⟨(Sp.ip4B0 (bl a0)).toNat, by omega⟩ : Fin 256).val : Nat) : Int) = Sp.ip4B0 (bl a0) from Int.toNat_of_nonneg hB.1] at this
   have eL : wrap64 (wrap64 (Go.bits .and .u8 (Sp.ip4B0 (bl a0)) 15) * 4) = Sp.ip4Len (bl a0) := by
    rw [e15, wrap_id (n := Sp.ip4B0 (bl a0) % 16) (by omega) (by omega), wrap_id (by omega) (by omega)]
    unfold Sp.ip4Len; omega
   rw [eL]
   show (if Sp.ip4B0 (bl a0) / 16 = 4 then (if Sp.ip4Len (bl a0) < 20 then ip4_sizes_p.j0 2 a0 (Sp.ip4Len (bl a0)) (Sp.ip4Tot (bl a0)) true else ip4_sizes_p.j0 2 a0 (Sp.ip4Len (bl a0)) (Sp.ip4Tot (bl a0)) (decide (Sp.ip4Len (bl a0) > (a0.size : Int)))) else some (0, 0, 3)) = _
   by_cases h2 : Sp.ip4B0 (bl a0) / 16 = 4
   ·rw [if_pos h2, if_neg (show ¬ (Sp.ip4B0 (bl a0) / 16 ≠ 4) from fun h => h h2)]
    by_cases h3 : Sp.ip4Len (bl a0) < 20
    ·rw [if_pos h3, if_pos (Or.inl h3), ip4_sizes_p.j0, if_pos rfl]
    ·rw [if_neg h3]
     by_cases h4 : Sp.ip4Len (bl a0) > (a0.size : Int)
     ·rw [decide_eq_true h4, if_pos (Or.inr h4), ip4_sizes_p.j0, if_pos rfl]
     ·rw [decide_eq_false h4, if_neg (by omega), ip4_sizes_p.j0, if_neg (by decide)]
      by_cases h5 : Sp.ip4Tot (bl a0) < Sp.ip4Len (bl a0)
      ·rw [if_pos h5, if_pos (Or.inl h5), ip4_sizes_p.j1, if_pos rfl]
      ·rw [if_neg h5]
       by_cases h6 : Sp.ip4Tot (bl a0) > (a0.size : Int)
       ·rw [decide_eq_true h6, if_pos (Or.inr h6), ip4_sizes_p.j1, if_pos rfl]
       ·rw [decide_eq_false h6, if_neg (by omega), ip4_sizes_p.j1, if_neg (by decide)]
        by_cases h7 : Sp.ip4Tot (bl a0) > 1500
        ·rw [if_pos h7, if_pos h7]
        ·rw [if_neg h7, if_neg h7]
   ·rw [if_neg h2, if_pos h2]
theorem ip4_sizes.calls (a0 : ByteArray) (r1 : Int) (r2 : Int) (r3 : Int) (w : World) (h : ip4_sizes.f a0 = some (r1, r2, r3)) :
  Calls Try.prog 29 #[.string a0] w fun e w' => e = .returned (.tuple #[.int .i64 r1, .int .i64 r2, .int .i64 r3]) ∧ Below w.heap.size w w' := by
 obtain ⟨k, hk⟩ := ip4_sizes_ev a0 _ h
 exact ip4_sizes_p.calls k a0 r1 r2 r3 w hk

/-! ### ip4_Parse: function 18 -/
theorem i4_below_stepB {w W W' : World} {B : Nat} (e : w.heap.size = B) (h : Below B w W) (hb : Below W.heap.size W W') : Below B w W' := by subst e; exact below_step h hb
theorem i4_heap_drew {W : World} {x : Obj} {B : Nat} (h : W.heap[B]? = some x) : W.drew.heap[B]? = some x := h
set_option maxRecDepth 100000 in
theorem ip4_get (B : Nat) (s : ByteArray) (hs : s.size ≤ 140737488355328) (a n : Int) (w : World) (hS : w.heap[B]? = some (.cells #[.string s] 9 (0, 0))) :
  Calls Try.prog 30 #[.int .i64 a, .int .i64 n, .pointer (some ⟨B, 0, none⟩)] w fun e w' => e = .returned (.int .i64 (Sp.get (bl s) a n).1) ∧ Below w.heap.size w w' := by
 have c0 := str_box hS
 have H := fun W => octet_Get.calls s a n _ _ W (octet_Get_eq s a n (by omega))
 go_enter Try.func30, Try.ntmps30
 go_wp2_with (fail)
 refine (H _).mono ?_
 rintro e w1 ⟨rfl, hb⟩
 go_wp2_with (fail)
 go_ret
 exact ⟨rfl, hb⟩
set_option maxRecDepth 100000 in
set_option maxHeartbeats 8000000 in
theorem ip4_parse_sizes (s : ByteArray) (w : World) (hs : s.size ≤ 140737488355328) (hd tot er : Int) (HZ : ∀ W, Calls Try.prog 29 #[.string s] W fun e w' => e = .returned (.tuple #[.int .i64 hd, .int .i64 tot, .int .i64 er]) ∧ Below W.heap.size W w') (he : er ≠ 0) : Calls Try.prog 18 #[.string s] w fun e w' => e = .returned (.tuple #[.agg #[.int .i64 0, .int .i64 0, .int .i64 0, .int .i64 0, .int .i64 0, .int .i64 0, .int .u32 0, .int .u32 0, .string ⟨#[]⟩], .string ⟨#[]⟩, .int .i64 er]) ∧ Below w.heap.size w w' := by
 have d0 : (er == 0) = false := by simpa using he
 obtain ⟨A, hA⟩ : ∃ A, w.heap.size = A := ⟨_, rfl⟩
 have hAe := Lib.hid hA
 clear hA
 go_enter Try.func18, Try.ntmps18
 go_wp2_with (fail)
 refine (HZ _).mono ?_
 rintro e w1 ⟨rfl, hb⟩
 have hS : w1.heap[w.heap.size]? = some (.cells #[.string s] 9 (0, 0)) := i4_heap_step (heap_alloc'' _ (World.alloc_heap_new w _)) hb
 have hR : w1.heap[w.heap.size + 1]? = some (.cells #[.int .i64 0, .int .i64 0, .int .i64 0, .int .i64 0, .int .i64 0, .int .i64 0, .int .u32 0, .int .u32 0, .string ⟨#[]⟩] 24 (0, 0)) := by
  have := World.alloc_heap_new (w.alloc (.cells #[.string s] 9)) (.cells #[.int .i64 0, .int .i64 0, .int .i64 0, .int .i64 0, .int .i64 0, .int .i64 0, .int .u32 0, .int .u32 0, .string ⟨#[]⟩] 24)
  rw [World.size_alloc] at this
  exact i4_heap_step this hb
 have hB := below_step (below_alloc (below_alloc (Below.refl _ _) _) _) hb
 clear hb
 rw [hAe.out] at hS hR hB ⊢
 have c0 := (blk_cell hR 0).trans (show _ = some (.int .i64 0) from rfl)
 have c1 := (blk_cell hR 1).trans (show _ = some (.int .i64 0) from rfl)
 have c2 := (blk_cell hR 2).trans (show _ = some (.int .i64 0) from rfl)
 have c3 := (blk_cell hR 3).trans (show _ = some (.int .i64 0) from rfl)
 have c4 := (blk_cell hR 4).trans (show _ = some (.int .i64 0) from rfl)
 have c5 := (blk_cell hR 5).trans (show _ = some (.int .i64 0) from rfl)
 have c6 := (blk_cell hR 6).trans (show _ = some (.int .u32 0) from rfl)
 have c7 := (blk_cell hR 7).trans (show _ = some (.int .u32 0) from rfl)
 have c8 := (blk_cell hR 8).trans (show _ = some (.string ⟨#[]⟩) from rfl)
 have f0 := blk_frozen hR 0
 have f1 := blk_frozen hR 1
 have f2 := blk_frozen hR 2
 have f3 := blk_frozen hR 3
 have f4 := blk_frozen hR 4
 have f5 := blk_frozen hR 5
 have f6 := blk_frozen hR 6
 have f7 := blk_frozen hR 7
 have f8 := blk_frozen hR 8
 have cS := (blk_cell hS 0).trans (show _ = some (.string s) from rfl)
 have HQ := Lib.hid (And.intro hS (And.intro hR hB))
 clear hS hR hB
 go_wp2_with (fail)
 obtain ⟨hS, hR, hB⟩ := HQ.out
 clear HQ cS
 (try simp only [Exit.inBlock, Exit.then])
 refine bodyPost_ret (results_ctt rfl _ _ (A + 1) 24 #[.int .i64 0, .int .i64 0, .int .i64 0, .int .i64 0, .int .i64 0, .int .i64 0, .int .u32 0, .int .u32 0, .string ⟨#[]⟩] (0, 0) _ rfl ?_ Try.underlying24 rfl (by kernel_rfl)) rfl ?_
 ·exact (blk_put (cs' := #[.int .i64 0, .int .i64 0, .int .i64 0, .int .i64 0, .int .i64 0, .int .i64 0, .int .u32 0, .int .u32 0, .string ⟨#[]⟩]) (blk_put (cs' := #[.int .i64 0, .int .i64 0, .int .i64 0, .int .i64 0, .int .i64 0, .int .i64 0, .int .u32 0, .int .u32 0, .string ⟨#[]⟩]) (blk_put (cs' := #[.int .i64 0, .int .i64 0, .int .i64 0, .int .i64 0, .int .i64 0, .int .i64 0, .int .u32 0, .int .u32 0, .string ⟨#[]⟩]) (blk_put (cs' := #[.int .i64 0, .int .i64 0, .int .i64 0, .int .i64 0, .int .i64 0, .int .i64 0, .int .u32 0, .int .u32 0, .string ⟨#[]⟩]) (blk_put (cs' := #[.int .i64 0, .int .i64 0, .int .i64 0, .int .i64 0, .int .i64 0, .int .i64 0, .int .u32 0, .int .u32 0, .string ⟨#[]⟩]) (blk_put (cs' := #[.int .i64 0, .int .i64 0, .int .i64 0, .int .i64 0, .int .i64 0, .int .i64 0, .int .u32 0, .int .u32 0, .string ⟨#[]⟩]) (blk_put (cs' := #[.int .i64 0, .int .i64 0, .int .i64 0, .int .i64 0, .int .i64 0, .int .i64 0, .int .u32 0, .int .u32 0, .string ⟨#[]⟩]) (blk_put (cs' := #[.int .i64 0, .int .i64 0, .int .i64 0, .int .i64 0, .int .i64 0, .int .i64 0, .int .u32 0, .int .u32 0, .string ⟨#[]⟩]) (blk_put (cs' := #[.int .i64 0, .int .i64 0, .int .i64 0, .int .i64 0, .int .i64 0, .int .i64 0, .int .u32 0, .int .u32 0, .string ⟨#[]⟩]) hR 0 _ rfl) 1 _ rfl) 2 _ rfl) 3 _ rfl) 4 _ rfl) 5 _ rfl) 6 _ rfl) 7 _ rfl) 8 _ rfl)
 refine ⟨rfl, ?_⟩
 rw [hAe.out]
 exact (Below.setCell (Below.setCell (Below.setCell (Below.setCell (Below.setCell (Below.setCell (Below.setCell (Below.setCell (Below.setCell hB (show A ≤ A + 1 by omega) _) (show A ≤ A + 1 by omega) _) (show A ≤ A + 1 by omega) _) (show A ≤ A + 1 by omega) _) (show A ≤ A + 1 by omega) _) (show A ≤ A + 1 by omega) _) (show A ≤ A + 1 by omega) _) (show A ≤ A + 1 by omega) _) (show A ≤ A + 1 by omega) _)
set_option maxRecDepth 100000 in
set_option maxHeartbeats 8000000 in
theorem ip4_parse_sum (s : ByteArray) (w : World) (hs : s.size ≤ 140737488355328) (hd tot er : Int) (HZ : ∀ W, Calls Try.prog 29 #[.string s] W fun e w' => e = .returned (.tuple #[.int .i64 hd, .int .i64 tot, .int .i64 er]) ∧ Below W.heap.size W w') (he : er = 0) (h1 : 20 ≤ hd) (h2 : hd ≤ tot) (h3 : tot ≤ s.size) (ck : Int) (HC : ∀ W, Calls Try.prog 19 #[.string (s.extract 0 hd.toNat)] W fun e w' => e = .returned (.int .u16 ck) ∧ Below W.heap.size W w') (hc : ck ≠ 65535) : Calls Try.prog 18 #[.string s] w fun e w' => e = .returned (.tuple #[.agg #[.int .i64 0, .int .i64 0, .int .i64 0, .int .i64 0, .int .i64 0, .int .i64 0, .int .u32 0, .int .u32 0, .string ⟨#[]⟩], .string ⟨#[]⟩, .int .i64 7]) ∧ Below w.heap.size w w' := by
 subst he
 have h4 : hd ≤ (s.size : Int) := by omega
 have h5 : 0 ≤ hd := by omega
 have d1 : decide (20 ≤ hd) = true := decide_eq_true h1
 have d2 : decide (hd ≤ (s.size : Int)) = true := decide_eq_true (by omega)
 have d3 : decide (0 ≤ hd) = true := decide_eq_true (by omega)
 have d4 : 20 ≤ hd.toNat := by omega
 have d5 : hd.toNat ≤ s.size := by omega
 have d6 : (ck == 65535) = false := by simpa using hc
 obtain ⟨A, hA⟩ : ∃ A, w.heap.size = A := ⟨_, rfl⟩
 have hAe := Lib.hid hA
 clear hA
 go_enter Try.func18, Try.ntmps18
 go_wp2_with (fail)
 refine (HZ _).mono ?_
 rintro e w1 ⟨rfl, hb⟩
 have hS : w1.heap[w.heap.size]? = some (.cells #[.string s] 9 (0, 0)) := i4_heap_step (heap_alloc'' _ (World.alloc_heap_new w _)) hb
 have hR : w1.heap[w.heap.size + 1]? = some (.cells #[.int .i64 0, .int .i64 0, .int .i64 0, .int .i64 0, .int .i64 0, .int .i64 0, .int .u32 0, .int .u32 0, .string ⟨#[]⟩] 24 (0, 0)) := by
  have := World.alloc_heap_new (w.alloc (.cells #[.string s] 9)) (.cells #[.int .i64 0, .int .i64 0, .int .i64 0, .int .i64 0, .int .i64 0, .int .i64 0, .int .u32 0, .int .u32 0, .string ⟨#[]⟩] 24)
  rw [World.size_alloc] at this
  exact i4_heap_step this hb
 have hB := below_step (below_alloc (below_alloc (Below.refl _ _) _) _) hb
 clear hb
 rw [hAe.out] at hS hR hB ⊢
 have c8 := (blk_cell hR 8).trans (show _ = some (.string ⟨#[]⟩) from rfl)
 have f8 := blk_frozen hR 8
 have cS := (blk_cell hS 0).trans (show _ = some (.string s) from rfl)
 have HQ := Lib.hid (And.intro hS (And.intro hR hB))
 clear hS hR hB
 go_wp2_with (fail)
 obtain ⟨hS, hR, hB⟩ := HQ.out
 clear HQ cS
 clear c8 f8
 have hR' : (w1.setCell ⟨A + 1, 8, none⟩ (.string (s.extract 20 hd.toNat))).heap[A + 1]? = some (.cells #[.int .i64 0, .int .i64 0, .int .i64 0, .int .i64 0, .int .i64 0, .int .i64 0, .int .u32 0, .int .u32 0, .string (s.extract 20 hd.toNat)] 24 (0, 0)) := (blk_put (cs' := #[.int .i64 0, .int .i64 0, .int .i64 0, .int .i64 0, .int .i64 0, .int .i64 0, .int .u32 0, .int .u32 0, .string (s.extract 20 hd.toNat)]) hR 8 _ rfl)
 have hS' : (w1.setCell ⟨A + 1, 8, none⟩ (.string (s.extract 20 hd.toNat))).heap[A]? = some (.cells #[.string s] 9 (0, 0)) := (blk_far hS (by show A ≠ A + 1; omega) _)
 have hB' : Below A w (w1.setCell ⟨A + 1, 8, none⟩ (.string (s.extract 20 hd.toNat))) := (Below.setCell hB (show A ≤ A + 1 by omega) _)
 clear hS hR hB
 generalize (w1.setCell ⟨A + 1, 8, none⟩ (.string (s.extract 20 hd.toNat))) = u1 at hR' hS' hB' ⊢
 have hS := hS'
 have hR := hR'
 have hB := hB'
 clear hS' hR' hB'
 refine (HC _).mono ?_
 rintro e w2 ⟨rfl, hb⟩
 have hS' := i4_heap_step hS hb
 have hR' := i4_heap_step hR hb
 have hB' := i4_below_stepB hAe.out hB hb
 clear hS hR hB hb
 have hS := hS'
 have hR := hR'
 have hB := hB'
 clear hS' hR' hB'
 have c0 := (blk_cell hR 0).trans (show _ = some (.int .i64 0) from rfl)
 have c1 := (blk_cell hR 1).trans (show _ = some (.int .i64 0) from rfl)
 have c2 := (blk_cell hR 2).trans (show _ = some (.int .i64 0) from rfl)
 have c3 := (blk_cell hR 3).trans (show _ = some (.int .i64 0) from rfl)
 have c4 := (blk_cell hR 4).trans (show _ = some (.int .i64 0) from rfl)
 have c5 := (blk_cell hR 5).trans (show _ = some (.int .i64 0) from rfl)
 have c6 := (blk_cell hR 6).trans (show _ = some (.int .u32 0) from rfl)
 have c7 := (blk_cell hR 7).trans (show _ = some (.int .u32 0) from rfl)
 have c8 := (blk_cell hR 8).trans (show _ = some (.string (s.extract 20 hd.toNat)) from rfl)
 have f0 := blk_frozen hR 0
 have f1 := blk_frozen hR 1
 have f2 := blk_frozen hR 2
 have f3 := blk_frozen hR 3
 have f4 := blk_frozen hR 4
 have f5 := blk_frozen hR 5
 have f6 := blk_frozen hR 6
 have f7 := blk_frozen hR 7
 have f8 := blk_frozen hR 8
 have cS := (blk_cell hS 0).trans (show _ = some (.string s) from rfl)
 have HQ := Lib.hid (And.intro hS (And.intro hR hB))
 clear hS hR hB
 go_wp2_with (fail)
 obtain ⟨hS, hR, hB⟩ := HQ.out
 clear HQ cS
 (try simp only [Exit.inBlock, Exit.then])
 refine bodyPost_ret (results_ctt rfl _ _ (A + 1) 24 #[.int .i64 0, .int .i64 0, .int .i64 0, .int .i64 0, .int .i64 0, .int .i64 0, .int .u32 0, .int .u32 0, .string ⟨#[]⟩] (0, 0) _ rfl ?_ Try.underlying24 rfl (by kernel_rfl)) rfl ?_
 ·exact (blk_put (cs' := #[.int .i64 0, .int .i64 0, .int .i64 0, .int .i64 0, .int .i64 0, .int .i64 0, .int .u32 0, .int .u32 0, .string ⟨#[]⟩]) (blk_put (cs' := #[.int .i64 0, .int .i64 0, .int .i64 0, .int .i64 0, .int .i64 0, .int .i64 0, .int .u32 0, .int .u32 0, .string (s.extract 20 hd.toNat)]) (blk_put (cs' := #[.int .i64 0, .int .i64 0, .int .i64 0, .int .i64 0, .int .i64 0, .int .i64 0, .int .u32 0, .int .u32 0, .string (s.extract 20 hd.toNat)]) (blk_put (cs' := #[.int .i64 0, .int .i64 0, .int .i64 0, .int .i64 0, .int .i64 0, .int .i64 0, .int .u32 0, .int .u32 0, .string (s.extract 20 hd.toNat)]) (blk_put (cs' := #[.int .i64 0, .int .i64 0, .int .i64 0, .int .i64 0, .int .i64 0, .int .i64 0, .int .u32 0, .int .u32 0, .string (s.extract 20 hd.toNat)]) (blk_put (cs' := #[.int .i64 0, .int .i64 0, .int .i64 0, .int .i64 0, .int .i64 0, .int .i64 0, .int .u32 0, .int .u32 0, .string (s.extract 20 hd.toNat)]) (blk_put (cs' := #[.int .i64 0, .int .i64 0, .int .i64 0, .int .i64 0, .int .i64 0, .int .i64 0, .int .u32 0, .int .u32 0, .string (s.extract 20 hd.toNat)]) (blk_put (cs' := #[.int .i64 0, .int .i64 0, .int .i64 0, .int .i64 0, .int .i64 0, .int .i64 0, .int .u32 0, .int .u32 0, .string (s.extract 20 hd.toNat)]) (blk_put (cs' := #[.int .i64 0, .int .i64 0, .int .i64 0, .int .i64 0, .int .i64 0, .int .i64 0, .int .u32 0, .int .u32 0, .string (s.extract 20 hd.toNat)]) hR 0 _ rfl) 1 _ rfl) 2 _ rfl) 3 _ rfl) 4 _ rfl) 5 _ rfl) 6 _ rfl) 7 _ rfl) 8 _ rfl)
 refine ⟨rfl, ?_⟩
 rw [hAe.out]
 exact (Below.setCell (Below.setCell (Below.setCell (Below.setCell (Below.setCell (Below.setCell (Below.setCell (Below.setCell (Below.setCell hB (show A ≤ A + 1 by omega) _) (show A ≤ A + 1 by omega) _) (show A ≤ A + 1 by omega) _) (show A ≤ A + 1 by omega) _) (show A ≤ A + 1 by omega) _) (show A ≤ A + 1 by omega) _) (show A ≤ A + 1 by omega) _) (show A ≤ A + 1 by omega) _) (show A ≤ A + 1 by omega) _)
set_option maxRecDepth 100000 in
set_option maxHeartbeats 8000000 in
theorem ip4_parse_opts (s : ByteArray) (w : World) (hs : s.size ≤ 140737488355328) (hd tot er : Int) (HZ : ∀ W, Calls Try.prog 29 #[.string s] W fun e w' => e = .returned (.tuple #[.int .i64 hd, .int .i64 tot, .int .i64 er]) ∧ Below W.heap.size W w') (he : er = 0) (h1 : 20 ≤ hd) (h2 : hd ≤ tot) (h3 : tot ≤ s.size) (ck : Int) (HC : ∀ W, Calls Try.prog 19 #[.string (s.extract 0 hd.toNat)] W fun e w' => e = .returned (.int .u16 ck) ∧ Below W.heap.size W w') (hc : ck = 65535) (ob : Bool) (HO : ∀ W, Calls Try.prog 16 #[.string (s.extract 20 hd.toNat)] W fun e w' => e = .returned (.bool ob) ∧ Below W.heap.size W w') (ho : ob = false) : Calls Try.prog 18 #[.string s] w fun e w' => e = .returned (.tuple #[.agg #[.int .i64 0, .int .i64 0, .int .i64 0, .int .i64 0, .int .i64 0, .int .i64 0, .int .u32 0, .int .u32 0, .string ⟨#[]⟩], .string ⟨#[]⟩, .int .i64 6]) ∧ Below w.heap.size w w' := by
 subst he
 have h4 : hd ≤ (s.size : Int) := by omega
 have h5 : 0 ≤ hd := by omega
 have d1 : decide (20 ≤ hd) = true := decide_eq_true h1
 have d2 : decide (hd ≤ (s.size : Int)) = true := decide_eq_true (by omega)
 have d3 : decide (0 ≤ hd) = true := decide_eq_true (by omega)
 have d4 : 20 ≤ hd.toNat := by omega
 have d5 : hd.toNat ≤ s.size := by omega
 subst hc
 subst ho
 obtain ⟨A, hA⟩ : ∃ A, w.heap.size = A := ⟨_, rfl⟩
 have hAe := Lib.hid hA
 clear hA
 go_enter Try.func18, Try.ntmps18
 go_wp2_with (fail)
 refine (HZ _).mono ?_
 rintro e w1 ⟨rfl, hb⟩
 have hS : w1.heap[w.heap.size]? = some (.cells #[.string s] 9 (0, 0)) := i4_heap_step (heap_alloc'' _ (World.alloc_heap_new w _)) hb
 have hR : w1.heap[w.heap.size + 1]? = some (.cells #[.int .i64 0, .int .i64 0, .int .i64 0, .int .i64 0, .int .i64 0, .int .i64 0, .int .u32 0, .int .u32 0, .string ⟨#[]⟩] 24 (0, 0)) := by
  have := World.alloc_heap_new (w.alloc (.cells #[.string s] 9)) (.cells #[.int .i64 0, .int .i64 0, .int .i64 0, .int .i64 0, .int .i64 0, .int .i64 0, .int .u32 0, .int .u32 0, .string ⟨#[]⟩] 24)
  rw [World.size_alloc] at this
  exact i4_heap_step this hb
 have hB := below_step (below_alloc (below_alloc (Below.refl _ _) _) _) hb
 clear hb
 rw [hAe.out] at hS hR hB ⊢
 have c8 := (blk_cell hR 8).trans (show _ = some (.string ⟨#[]⟩) from rfl)
 have f8 := blk_frozen hR 8
 have cS := (blk_cell hS 0).trans (show _ = some (.string s) from rfl)
 have HQ := Lib.hid (And.intro hS (And.intro hR hB))
 clear hS hR hB
 go_wp2_with (fail)
 obtain ⟨hS, hR, hB⟩ := HQ.out
 clear HQ cS
 clear c8 f8
 have hR' : (w1.setCell ⟨A + 1, 8, none⟩ (.string (s.extract 20 hd.toNat))).heap[A + 1]? = some (.cells #[.int .i64 0, .int .i64 0, .int .i64 0, .int .i64 0, .int .i64 0, .int .i64 0, .int .u32 0, .int .u32 0, .string (s.extract 20 hd.toNat)] 24 (0, 0)) := (blk_put (cs' := #[.int .i64 0, .int .i64 0, .int .i64 0, .int .i64 0, .int .i64 0, .int .i64 0, .int .u32 0, .int .u32 0, .string (s.extract 20 hd.toNat)]) hR 8 _ rfl)
 have hS' : (w1.setCell ⟨A + 1, 8, none⟩ (.string (s.extract 20 hd.toNat))).heap[A]? = some (.cells #[.string s] 9 (0, 0)) := (blk_far hS (by show A ≠ A + 1; omega) _)
 have hB' : Below A w (w1.setCell ⟨A + 1, 8, none⟩ (.string (s.extract 20 hd.toNat))) := (Below.setCell hB (show A ≤ A + 1 by omega) _)
 clear hS hR hB
 generalize (w1.setCell ⟨A + 1, 8, none⟩ (.string (s.extract 20 hd.toNat))) = u1 at hR' hS' hB' ⊢
 have hS := hS'
 have hR := hR'
 have hB := hB'
 clear hS' hR' hB'
 refine (HC _).mono ?_
 rintro e w2 ⟨rfl, hb⟩
 have hS' := i4_heap_step hS hb
 have hR' := i4_heap_step hR hb
 have hB' := i4_below_stepB hAe.out hB hb
 clear hS hR hB hb
 have hS := hS'
 have hR := hR'
 have hB := hB'
 clear hS' hR' hB'
 have c8 := (blk_cell hR 8).trans (show _ = some (.string (s.extract 20 hd.toNat)) from rfl)
 have f8 := blk_frozen hR 8
 have cS := (blk_cell hS 0).trans (show _ = some (.string s) from rfl)
 have HQ := Lib.hid (And.intro hS (And.intro hR hB))
 clear hS hR hB
 go_wp2_with (fail)
 obtain ⟨hS, hR, hB⟩ := HQ.out
 clear HQ cS
 clear c8 f8
 refine (HO _).mono ?_
 rintro e w3 ⟨rfl, hb⟩
 have hS' := i4_heap_step hS hb
 have hR' := i4_heap_step hR hb
 have hB' := i4_below_stepB hAe.out hB hb
 clear hS hR hB hb
 have hS := hS'
 have hR := hR'
 have hB := hB'
 clear hS' hR' hB'
 have c0 := (blk_cell hR 0).trans (show _ = some (.int .i64 0) from rfl)
 have c1 := (blk_cell hR 1).trans (show _ = some (.int .i64 0) from rfl)
 have c2 := (blk_cell hR 2).trans (show _ = some (.int .i64 0) from rfl)
 have c3 := (blk_cell hR 3).trans (show _ = some (.int .i64 0) from rfl)
 have c4 := (blk_cell hR 4).trans (show _ = some (.int .i64 0) from rfl)
 have c5 := (blk_cell hR 5).trans (show _ = some (.int .i64 0) from rfl)
 have c6 := (blk_cell hR 6).trans (show _ = some (.int .u32 0) from rfl)
 have c7 := (blk_cell hR 7).trans (show _ = some (.int .u32 0) from rfl)
 have c8 := (blk_cell hR 8).trans (show _ = some (.string (s.extract 20 hd.toNat)) from rfl)
 have f0 := blk_frozen hR 0
 have f1 := blk_frozen hR 1
 have f2 := blk_frozen hR 2
 have f3 := blk_frozen hR 3
 have f4 := blk_frozen hR 4
 have f5 := blk_frozen hR 5
 have f6 := blk_frozen hR 6
 have f7 := blk_frozen hR 7
 have f8 := blk_frozen hR 8
 have cS := (blk_cell hS 0).trans (show _ = some (.string s) from rfl)
 have HQ := Lib.hid (And.intro hS (And.intro hR hB))
 clear hS hR hB
 go_wp2_with (fail)
 obtain ⟨hS, hR, hB⟩ := HQ.out
 clear HQ cS
 (try simp only [Exit.inBlock, Exit.then])
 refine bodyPost_ret (results_ctt rfl _ _ (A + 1) 24 #[.int .i64 0, .int .i64 0, .int .i64 0, .int .i64 0, .int .i64 0, .int .i64 0, .int .u32 0, .int .u32 0, .string ⟨#[]⟩] (0, 0) _ rfl ?_ Try.underlying24 rfl (by kernel_rfl)) rfl ?_
 ·exact (blk_put (cs' := #[.int .i64 0, .int .i64 0, .int .i64 0, .int .i64 0, .int .i64 0, .int .i64 0, .int .u32 0, .int .u32 0, .string ⟨#[]⟩]) (blk_put (cs' := #[.int .i64 0, .int .i64 0, .int .i64 0, .int .i64 0, .int .i64 0, .int .i64 0, .int .u32 0, .int .u32 0, .string (s.extract 20 hd.toNat)]) (blk_put (cs' := #[.int .i64 0, .int .i64 0, .int .i64 0, .int .i64 0, .int .i64 0, .int .i64 0, .int .u32 0, .int .u32 0, .string (s.extract 20 hd.toNat)]) (blk_put (cs' := #[.int .i64 0, .int .i64 0, .int .i64 0, .int .i64 0, .int .i64 0, .int .i64 0, .int .u32 0, .int .u32 0, .string (s.extract 20 hd.toNat)]) (blk_put (cs' := #[.int .i64 0, .int .i64 0, .int .i64 0, .int .i64 0, .int .i64 0, .int .i64 0, .int .u32 0, .int .u32 0, .string (s.extract 20 hd.toNat)]) (blk_put (cs' := #[.int .i64 0, .int .i64 0, .int .i64 0, .int .i64 0, .int .i64 0, .int .i64 0, .int .u32 0, .int .u32 0, .string (s.extract 20 hd.toNat)]) (blk_put (cs' := #[.int .i64 0, .int .i64 0, .int .i64 0, .int .i64 0, .int .i64 0, .int .i64 0, .int .u32 0, .int .u32 0, .string (s.extract 20 hd.toNat)]) (blk_put (cs' := #[.int .i64 0, .int .i64 0, .int .i64 0, .int .i64 0, .int .i64 0, .int .i64 0, .int .u32 0, .int .u32 0, .string (s.extract 20 hd.toNat)]) (blk_put (cs' := #[.int .i64 0, .int .i64 0, .int .i64 0, .int .i64 0, .int .i64 0, .int .i64 0, .int .u32 0, .int .u32 0, .string (s.extract 20 hd.toNat)]) hR 0 _ rfl) 1 _ rfl) 2 _ rfl) 3 _ rfl) 4 _ rfl) 5 _ rfl) 6 _ rfl) 7 _ rfl) 8 _ rfl)
 refine ⟨rfl, ?_⟩
 rw [hAe.out]
 exact (Below.setCell (Below.setCell (Below.setCell (Below.setCell (Below.setCell (Below.setCell (Below.setCell (Below.setCell (Below.setCell hB (show A ≤ A + 1 by omega) _) (show A ≤ A + 1 by omega) _) (show A ≤ A + 1 by omega) _) (show A ≤ A + 1 by omega) _) (show A ≤ A + 1 by omega) _) (show A ≤ A + 1 by omega) _) (show A ≤ A + 1 by omega) _) (show A ≤ A + 1 by omega) _) (show A ≤ A + 1 by omega) _)
set_option maxRecDepth 100000 in
set_option maxHeartbeats 8000000 in
theorem ip4_parse_ok (s : ByteArray) (w : World) (hs : s.size ≤ 140737488355328) (hd tot er : Int) (HZ : ∀ W, Calls Try.prog 29 #[.string s] W fun e w' => e = .returned (.tuple #[.int .i64 hd, .int .i64 tot, .int .i64 er]) ∧ Below W.heap.size W w') (he : er = 0) (h1 : 20 ≤ hd) (h2 : hd ≤ tot) (h3 : tot ≤ s.size) (ck : Int) (HC : ∀ W, Calls Try.prog 19 #[.string (s.extract 0 hd.toNat)] W fun e w' => e = .returned (.int .u16 ck) ∧ Below W.heap.size W w') (hc : ck = 65535) (ob : Bool) (HO : ∀ W, Calls Try.prog 16 #[.string (s.extract 20 hd.toNat)] W fun e w' => e = .returned (.bool ob) ∧ Below W.heap.size W w') (ho : ob = true) : Calls Try.prog 18 #[.string s] w fun e w' => e = .returned (.tuple #[.agg #[.int .i64 (Sp.get (bl s) 1 1).1, .int .i64 (Sp.get (bl s) 4 2).1, .int .i64 ((Sp.get (bl s) 6 2).1 / 8192), .int .i64 (Go.bits .and .i64 (Sp.get (bl s) 6 2).1 8191), .int .i64 (Sp.get (bl s) 8 1).1, .int .i64 (Sp.get (bl s) 9 1).1, .int .u32 ((Sp.get (bl s) 12 4).1 % 4294967296), .int .u32 ((Sp.get (bl s) 16 4).1 % 4294967296), .string (s.extract 20 hd.toNat)], .string (s.extract hd.toNat tot.toNat), .int .i64 0]) ∧ Below w.heap.size w w' := by
 subst he
 have h4 : hd ≤ (s.size : Int) := by omega
 have h5 : 0 ≤ hd := by omega
 have d1 : decide (20 ≤ hd) = true := decide_eq_true h1
 have d2 : decide (hd ≤ (s.size : Int)) = true := decide_eq_true (by omega)
 have d3 : decide (0 ≤ hd) = true := decide_eq_true (by omega)
 have d4 : 20 ≤ hd.toNat := by omega
 have d5 : hd.toNat ≤ s.size := by omega
 subst hc
 subst ho
 obtain ⟨A, hA⟩ : ∃ A, w.heap.size = A := ⟨_, rfl⟩
 have hAe := Lib.hid hA
 clear hA
 go_enter Try.func18, Try.ntmps18
 go_wp2_with (fail)
 refine (HZ _).mono ?_
 rintro e w1 ⟨rfl, hb⟩
 have hS : w1.heap[w.heap.size]? = some (.cells #[.string s] 9 (0, 0)) := i4_heap_step (heap_alloc'' _ (World.alloc_heap_new w _)) hb
 have hR : w1.heap[w.heap.size + 1]? = some (.cells #[.int .i64 0, .int .i64 0, .int .i64 0, .int .i64 0, .int .i64 0, .int .i64 0, .int .u32 0, .int .u32 0, .string ⟨#[]⟩] 24 (0, 0)) := by
  have := World.alloc_heap_new (w.alloc (.cells #[.string s] 9)) (.cells #[.int .i64 0, .int .i64 0, .int .i64 0, .int .i64 0, .int .i64 0, .int .i64 0, .int .u32 0, .int .u32 0, .string ⟨#[]⟩] 24)
  rw [World.size_alloc] at this
  exact i4_heap_step this hb
 have hB := below_step (below_alloc (below_alloc (Below.refl _ _) _) _) hb
 clear hb
 rw [hAe.out] at hS hR hB ⊢
 have c8 := (blk_cell hR 8).trans (show _ = some (.string ⟨#[]⟩) from rfl)
 have f8 := blk_frozen hR 8
 have cS := (blk_cell hS 0).trans (show _ = some (.string s) from rfl)
 have HQ := Lib.hid (And.intro hS (And.intro hR hB))
 clear hS hR hB
 go_wp2_with (fail)
 obtain ⟨hS, hR, hB⟩ := HQ.out
 clear HQ cS
 clear c8 f8
 have hR' : (w1.setCell ⟨A + 1, 8, none⟩ (.string (s.extract 20 hd.toNat))).heap[A + 1]? = some (.cells #[.int .i64 0, .int .i64 0, .int .i64 0, .int .i64 0, .int .i64 0, .int .i64 0, .int .u32 0, .int .u32 0, .string (s.extract 20 hd.toNat)] 24 (0, 0)) := (blk_put (cs' := #[.int .i64 0, .int .i64 0, .int .i64 0, .int .i64 0, .int .i64 0, .int .i64 0, .int .u32 0, .int .u32 0, .string (s.extract 20 hd.toNat)]) hR 8 _ rfl)
 have hS' : (w1.setCell ⟨A + 1, 8, none⟩ (.string (s.extract 20 hd.toNat))).heap[A]? = some (.cells #[.string s] 9 (0, 0)) := (blk_far hS (by show A ≠ A + 1; omega) _)
 have hB' : Below A w (w1.setCell ⟨A + 1, 8, none⟩ (.string (s.extract 20 hd.toNat))) := (Below.setCell hB (show A ≤ A + 1 by omega) _)
 clear hS hR hB
 generalize (w1.setCell ⟨A + 1, 8, none⟩ (.string (s.extract 20 hd.toNat))) = u1 at hR' hS' hB' ⊢
 have hS := hS'
 have hR := hR'
 have hB := hB'
 clear hS' hR' hB'
 refine (HC _).mono ?_
 rintro e w2 ⟨rfl, hb⟩
 have hS' := i4_heap_step hS hb
 have hR' := i4_heap_step hR hb
 have hB' := i4_below_stepB hAe.out hB hb
 clear hS hR hB hb
 have hS := hS'
 have hR := hR'
 have hB := hB'
 clear hS' hR' hB'
 have c8 := (blk_cell hR 8).trans (show _ = some (.string (s.extract 20 hd.toNat)) from rfl)
 have f8 := blk_frozen hR 8
 have cS := (blk_cell hS 0).trans (show _ = some (.string s) from rfl)
 have HQ := Lib.hid (And.intro hS (And.intro hR hB))
 clear hS hR hB
 go_wp2_with (fail)
 obtain ⟨hS, hR, hB⟩ := HQ.out
 clear HQ cS
 clear c8 f8
 refine (HO _).mono ?_
 rintro e w3 ⟨rfl, hb⟩
 have hS' := i4_heap_step hS hb
 have hR' := i4_heap_step hR hb
 have hB' := i4_below_stepB hAe.out hB hb
 clear hS hR hB hb
 have hS := hS'
 have hR := hR'
 have hB := hB'
 clear hS' hR' hB'
 have cS := (blk_cell hS 0).trans (show _ = some (.string s) from rfl)
 have HQ := Lib.hid (And.intro hS (And.intro hR hB))
 clear hS hR hB
 go_wp2_with (fail)
 obtain ⟨hS, hR, hB⟩ := HQ.out
 clear HQ cS
 refine (ip4_get A s hs 1 1 _ hS).mono ?_
 rintro e y1 ⟨rfl, hb⟩
 have hS' := i4_heap_step hS hb
 have hR' := i4_heap_step hR hb
 have hB' := i4_below_stepB hAe.out hB hb
 clear hS hR hB hb
 have hS := hS'
 have hR := hR'
 have hB := hB'
 clear hS' hR' hB'
 have cS := (blk_cell hS 0).trans (show _ = some (.string s) from rfl)
 have HQ := Lib.hid (And.intro hS (And.intro hR hB))
 clear hS hR hB
 go_wp2_with (fail)
 obtain ⟨hS, hR, hB⟩ := HQ.out
 clear HQ cS
 refine (ip4_get A s hs 4 2 _ hS).mono ?_
 rintro e y2 ⟨rfl, hb⟩
 have hS' := i4_heap_step hS hb
 have hR' := i4_heap_step hR hb
 have hB' := i4_below_stepB hAe.out hB hb
 clear hS hR hB hb
 have hS := hS'
 have hR := hR'
 have hB := hB'
 clear hS' hR' hB'
 have cS := (blk_cell hS 0).trans (show _ = some (.string s) from rfl)
 have HQ := Lib.hid (And.intro hS (And.intro hR hB))
 clear hS hR hB
 go_wp2_with (fail)
 obtain ⟨hS, hR, hB⟩ := HQ.out
 clear HQ cS
 refine (ip4_get A s hs 8 1 _ hS).mono ?_
 rintro e y3 ⟨rfl, hb⟩
 have hS' := i4_heap_step hS hb
 have hR' := i4_heap_step hR hb
 have hB' := i4_below_stepB hAe.out hB hb
 clear hS hR hB hb
 have hS := hS'
 have hR := hR'
 have hB := hB'
 clear hS' hR' hB'
 have cS := (blk_cell hS 0).trans (show _ = some (.string s) from rfl)
 have HQ := Lib.hid (And.intro hS (And.intro hR hB))
 clear hS hR hB
 go_wp2_with (fail)
 obtain ⟨hS, hR, hB⟩ := HQ.out
 clear HQ cS
 refine (ip4_get A s hs 9 1 _ hS).mono ?_
 rintro e y4 ⟨rfl, hb⟩
 have hS' := i4_heap_step hS hb
 have hR' := i4_heap_step hR hb
 have hB' := i4_below_stepB hAe.out hB hb
 clear hS hR hB hb
 have hS := hS'
 have hR := hR'
 have hB := hB'
 clear hS' hR' hB'
 have c0 := (blk_cell hR 0).trans (show _ = some (.int .i64 0) from rfl)
 have c1 := (blk_cell hR 1).trans (show _ = some (.int .i64 0) from rfl)
 have c4 := (blk_cell hR 4).trans (show _ = some (.int .i64 0) from rfl)
 have c5 := (blk_cell hR 5).trans (show _ = some (.int .i64 0) from rfl)
 have f0 := blk_frozen hR 0
 have f1 := blk_frozen hR 1
 have f4 := blk_frozen hR 4
 have f5 := blk_frozen hR 5
 have cS := (blk_cell hS 0).trans (show _ = some (.string s) from rfl)
 have HQ := Lib.hid (And.intro hS (And.intro hR hB))
 clear hS hR hB
 go_wp2_with (fail)
 obtain ⟨hS, hR, hB⟩ := HQ.out
 clear HQ cS
 clear c0 f0 c1 f1 c4 f4 c5 f5
 have hR' : ((((y4.setCell ⟨A + 1, 0, none⟩ (.int .i64 (Sp.get (bl s) 1 1).1)).setCell ⟨A + 1, 1, none⟩ (.int .i64 (Sp.get (bl s) 4 2).1)).setCell ⟨A + 1, 4, none⟩ (.int .i64 (Sp.get (bl s) 8 1).1)).setCell ⟨A + 1, 5, none⟩ (.int .i64 (Sp.get (bl s) 9 1).1)).heap[A + 1]? = some (.cells #[.int .i64 (Sp.get (bl s) 1 1).1, .int .i64 (Sp.get (bl s) 4 2).1, .int .i64 0, .int .i64 0, .int .i64 (Sp.get (bl s) 8 1).1, .int .i64 (Sp.get (bl s) 9 1).1, .int .u32 0, .int .u32 0, .string (s.extract 20 hd.toNat)] 24 (0, 0)) := (blk_put (cs' := #[.int .i64 (Sp.get (bl s) 1 1).1, .int .i64 (Sp.get (bl s) 4 2).1, .int .i64 0, .int .i64 0, .int .i64 (Sp.get (bl s) 8 1).1, .int .i64 (Sp.get (bl s) 9 1).1, .int .u32 0, .int .u32 0, .string (s.extract 20 hd.toNat)]) (blk_put (cs' := #[.int .i64 (Sp.get (bl s) 1 1).1, .int .i64 (Sp.get (bl s) 4 2).1, .int .i64 0, .int .i64 0, .int .i64 (Sp.get (bl s) 8 1).1, .int .i64 0, .int .u32 0, .int .u32 0, .string (s.extract 20 hd.toNat)]) (blk_put (cs' := #[.int .i64 (Sp.get (bl s) 1 1).1, .int .i64 (Sp.get (bl s) 4 2).1, .int .i64 0, .int .i64 0, .int .i64 0, .int .i64 0, .int .u32 0, .int .u32 0, .string (s.extract 20 hd.toNat)]) (blk_put (cs' := #[.int .i64 (Sp.get (bl s) 1 1).1, .int .i64 0, .int .i64 0, .int .i64 0, .int .i64 0, .int .i64 0, .int .u32 0, .int .u32 0, .string (s.extract 20 hd.toNat)]) hR 0 _ rfl) 1 _ rfl) 4 _ rfl) 5 _ rfl)
 have hS' : ((((y4.setCell ⟨A + 1, 0, none⟩ (.int .i64 (Sp.get (bl s) 1 1).1)).setCell ⟨A + 1, 1, none⟩ (.int .i64 (Sp.get (bl s) 4 2).1)).setCell ⟨A + 1, 4, none⟩ (.int .i64 (Sp.get (bl s) 8 1).1)).setCell ⟨A + 1, 5, none⟩ (.int .i64 (Sp.get (bl s) 9 1).1)).heap[A]? = some (.cells #[.string s] 9 (0, 0)) := (blk_far (blk_far (blk_far (blk_far hS (by show A ≠ A + 1; omega) _) (by show A ≠ A + 1; omega) _) (by show A ≠ A + 1; omega) _) (by show A ≠ A + 1; omega) _)
 have hB' : Below A w ((((y4.setCell ⟨A + 1, 0, none⟩ (.int .i64 (Sp.get (bl s) 1 1).1)).setCell ⟨A + 1, 1, none⟩ (.int .i64 (Sp.get (bl s) 4 2).1)).setCell ⟨A + 1, 4, none⟩ (.int .i64 (Sp.get (bl s) 8 1).1)).setCell ⟨A + 1, 5, none⟩ (.int .i64 (Sp.get (bl s) 9 1).1)) := (Below.setCell (Below.setCell (Below.setCell (Below.setCell hB (show A ≤ A + 1 by omega) _) (show A ≤ A + 1 by omega) _) (show A ≤ A + 1 by omega) _) (show A ≤ A + 1 by omega) _)
 clear hS hR hB
 generalize ((((y4.setCell ⟨A + 1, 0, none⟩ (.int .i64 (Sp.get (bl s) 1 1).1)).setCell ⟨A + 1, 1, none⟩ (.int .i64 (Sp.get (bl s) 4 2).1)).setCell ⟨A + 1, 4, none⟩ (.int .i64 (Sp.get (bl s) 8 1).1)).setCell ⟨A + 1, 5, none⟩ (.int .i64 (Sp.get (bl s) 9 1).1)) = u2 at hR' hS' hB' ⊢
 have hS := hS'
 have hR := hR'
 have hB := hB'
 clear hS' hR' hB'
 refine (ip4_get A s hs 6 2 _ hS).mono ?_
 rintro e y5 ⟨rfl, hb⟩
 have hS' := i4_heap_step hS hb
 have hR' := i4_heap_step hR hb
 have hB' := i4_below_stepB hAe.out hB hb
 clear hS hR hB hb
 have hS := hS'
 have hR := hR'
 have hB := hB'
 clear hS' hR' hB'
 have cS := (blk_cell hS 0).trans (show _ = some (.string s) from rfl)
 have HQ := Lib.hid (And.intro hS (And.intro hR hB))
 clear hS hR hB
 go_wp2_with (fail)
 obtain ⟨hS, hR, hB⟩ := HQ.out
 clear HQ cS
 refine (ip4_get A s hs 6 2 _ hS).mono ?_
 rintro e y6 ⟨rfl, hb⟩
 have hS' := i4_heap_step hS hb
 have hR' := i4_heap_step hR hb
 have hB' := i4_below_stepB hAe.out hB hb
 clear hS hR hB hb
 have hS := hS'
 have hR := hR'
 have hB := hB'
 clear hS' hR' hB'
 have c2 := (blk_cell hR 2).trans (show _ = some (.int .i64 0) from rfl)
 have c3 := (blk_cell hR 3).trans (show _ = some (.int .i64 0) from rfl)
 have f2 := blk_frozen hR 2
 have f3 := blk_frozen hR 3
 have cS := (blk_cell hS 0).trans (show _ = some (.string s) from rfl)
 have HQ := Lib.hid (And.intro hS (And.intro hR hB))
 clear hS hR hB
 go_wp2_with (fail)
 obtain ⟨hS, hR, hB⟩ := HQ.out
 clear HQ cS
 clear c2 f2 c3 f3
 have hR' : ((y6.setCell ⟨A + 1, 2, none⟩ (.int .i64 ((Sp.get (bl s) 6 2).1 / 8192))).setCell ⟨A + 1, 3, none⟩ (.int .i64 (Go.bits .and .i64 (Sp.get (bl s) 6 2).1 8191))).heap[A + 1]? = some (.cells #[.int .i64 (Sp.get (bl s) 1 1).1, .int .i64 (Sp.get (bl s) 4 2).1, .int .i64 ((Sp.get (bl s) 6 2).1 / 8192), .int .i64 (Go.bits .and .i64 (Sp.get (bl s) 6 2).1 8191), .int .i64 (Sp.get (bl s) 8 1).1, .int .i64 (Sp.get (bl s) 9 1).1, .int .u32 0, .int .u32 0, .string (s.extract 20 hd.toNat)] 24 (0, 0)) := (blk_put (cs' := #[.int .i64 (Sp.get (bl s) 1 1).1, .int .i64 (Sp.get (bl s) 4 2).1, .int .i64 ((Sp.get (bl s) 6 2).1 / 8192), .int .i64 (Go.bits .and .i64 (Sp.get (bl s) 6 2).1 8191), .int .i64 (Sp.get (bl s) 8 1).1, .int .i64 (Sp.get (bl s) 9 1).1, .int .u32 0, .int .u32 0, .string (s.extract 20 hd.toNat)]) (blk_put (cs' := #[.int .i64 (Sp.get (bl s) 1 1).1, .int .i64 (Sp.get (bl s) 4 2).1, .int .i64 ((Sp.get (bl s) 6 2).1 / 8192), .int .i64 0, .int .i64 (Sp.get (bl s) 8 1).1, .int .i64 (Sp.get (bl s) 9 1).1, .int .u32 0, .int .u32 0, .string (s.extract 20 hd.toNat)]) hR 2 _ rfl) 3 _ rfl)
 have hS' : ((y6.setCell ⟨A + 1, 2, none⟩ (.int .i64 ((Sp.get (bl s) 6 2).1 / 8192))).setCell ⟨A + 1, 3, none⟩ (.int .i64 (Go.bits .and .i64 (Sp.get (bl s) 6 2).1 8191))).heap[A]? = some (.cells #[.string s] 9 (0, 0)) := (blk_far (blk_far hS (by show A ≠ A + 1; omega) _) (by show A ≠ A + 1; omega) _)
 have hB' : Below A w ((y6.setCell ⟨A + 1, 2, none⟩ (.int .i64 ((Sp.get (bl s) 6 2).1 / 8192))).setCell ⟨A + 1, 3, none⟩ (.int .i64 (Go.bits .and .i64 (Sp.get (bl s) 6 2).1 8191))) := (Below.setCell (Below.setCell hB (show A ≤ A + 1 by omega) _) (show A ≤ A + 1 by omega) _)
 clear hS hR hB
 generalize ((y6.setCell ⟨A + 1, 2, none⟩ (.int .i64 ((Sp.get (bl s) 6 2).1 / 8192))).setCell ⟨A + 1, 3, none⟩ (.int .i64 (Go.bits .and .i64 (Sp.get (bl s) 6 2).1 8191))) = u3 at hR' hS' hB' ⊢
 have hS := hS'
 have hR := hR'
 have hB := hB'
 clear hS' hR' hB'
 refine (ip4_get A s hs 12 4 _ hS).mono ?_
 rintro e y7 ⟨rfl, hb⟩
 have hS' := i4_heap_step hS hb
 have hR' := i4_heap_step hR hb
 have hB' := i4_below_stepB hAe.out hB hb
 clear hS hR hB hb
 have hS := hS'
 have hR := hR'
 have hB := hB'
 clear hS' hR' hB'
 have cS := (blk_cell hS 0).trans (show _ = some (.string s) from rfl)
 have HQ := Lib.hid (And.intro hS (And.intro hR hB))
 clear hS hR hB
 go_wp2_with (fail)
 obtain ⟨hS, hR, hB⟩ := HQ.out
 clear HQ cS
 refine (ip4_get A s hs 16 4 _ hS).mono ?_
 rintro e y8 ⟨rfl, hb⟩
 have hS' := i4_heap_step hS hb
 have hR' := i4_heap_step hR hb
 have hB' := i4_below_stepB hAe.out hB hb
 clear hS hR hB hb
 have hS := hS'
 have hR := hR'
 have hB := hB'
 clear hS' hR' hB'
 have c6 := (blk_cell hR 6).trans (show _ = some (.int .u32 0) from rfl)
 have c7 := (blk_cell hR 7).trans (show _ = some (.int .u32 0) from rfl)
 have f6 := blk_frozen hR 6
 have f7 := blk_frozen hR 7
 have cS := (blk_cell hS 0).trans (show _ = some (.string s) from rfl)
 have HQ := Lib.hid (And.intro hS (And.intro hR hB))
 clear hS hR hB
 go_wp2_with (fail)
 obtain ⟨hS, hR, hB⟩ := HQ.out
 clear HQ cS
 clear c6 f6 c7 f7
 have hR' : ((y8.setCell ⟨A + 1, 6, none⟩ (.int .u32 ((Sp.get (bl s) 12 4).1 % 4294967296))).setCell ⟨A + 1, 7, none⟩ (.int .u32 ((Sp.get (bl s) 16 4).1 % 4294967296))).heap[A + 1]? = some (.cells #[.int .i64 (Sp.get (bl s) 1 1).1, .int .i64 (Sp.get (bl s) 4 2).1, .int .i64 ((Sp.get (bl s) 6 2).1 / 8192), .int .i64 (Go.bits .and .i64 (Sp.get (bl s) 6 2).1 8191), .int .i64 (Sp.get (bl s) 8 1).1, .int .i64 (Sp.get (bl s) 9 1).1, .int .u32 ((Sp.get (bl s) 12 4).1 % 4294967296), .int .u32 ((Sp.get (bl s) 16 4).1 % 4294967296), .string (s.extract 20 hd.toNat)] 24 (0, 0)) := (blk_put (cs' := #[.int .i64 (Sp.get (bl s) 1 1).1, .int .i64 (Sp.get (bl s) 4 2).1, .int .i64 ((Sp.get (bl s) 6 2).1 / 8192), .int .i64 (Go.bits .and .i64 (Sp.get (bl s) 6 2).1 8191), .int .i64 (Sp.get (bl s) 8 1).1, .int .i64 (Sp.get (bl s) 9 1).1, .int .u32 ((Sp.get (bl s) 12 4).1 % 4294967296), .int .u32 ((Sp.get (bl s) 16 4).1 % 4294967296), .string (s.extract 20 hd.toNat)]) (blk_put (cs' := #[.int .i64 (Sp.get (bl s) 1 1).1, .int .i64 (Sp.get (bl s) 4 2).1, .int .i64 ((Sp.get (bl s) 6 2).1 / 8192), .int .i64 (Go.bits .and .i64 (Sp.get (bl s) 6 2).1 8191), .int .i64 (Sp.get (bl s) 8 1).1, .int .i64 (Sp.get (bl s) 9 1).1, .int .u32 ((Sp.get (bl s) 12 4).1 % 4294967296), .int .u32 0, .string (s.extract 20 hd.toNat)]) hR 6 _ rfl) 7 _ rfl)
 have hS' : ((y8.setCell ⟨A + 1, 6, none⟩ (.int .u32 ((Sp.get (bl s) 12 4).1 % 4294967296))).setCell ⟨A + 1, 7, none⟩ (.int .u32 ((Sp.get (bl s) 16 4).1 % 4294967296))).heap[A]? = some (.cells #[.string s] 9 (0, 0)) := (blk_far (blk_far hS (by show A ≠ A + 1; omega) _) (by show A ≠ A + 1; omega) _)
 have hB' : Below A w ((y8.setCell ⟨A + 1, 6, none⟩ (.int .u32 ((Sp.get (bl s) 12 4).1 % 4294967296))).setCell ⟨A + 1, 7, none⟩ (.int .u32 ((Sp.get (bl s) 16 4).1 % 4294967296))) := (Below.setCell (Below.setCell hB (show A ≤ A + 1 by omega) _) (show A ≤ A + 1 by omega) _)
 clear hS hR hB
 generalize ((y8.setCell ⟨A + 1, 6, none⟩ (.int .u32 ((Sp.get (bl s) 12 4).1 % 4294967296))).setCell ⟨A + 1, 7, none⟩ (.int .u32 ((Sp.get (bl s) 16 4).1 % 4294967296))) = u4 at hR' hS' hB' ⊢
 have hS := hS'
 have hR := hR'
 have hB := hB'
 clear hS' hR' hB'
 have hRS : ∀ W : World, W.heap[A + 1]? = some (.cells #[.int .i64 (Sp.get (bl s) 1 1).1, .int .i64 (Sp.get (bl s) 4 2).1, .int .i64 ((Sp.get (bl s) 6 2).1 / 8192), .int .i64 (Go.bits .and .i64 (Sp.get (bl s) 6 2).1 8191), .int .i64 (Sp.get (bl s) 8 1).1, .int .i64 (Sp.get (bl s) 9 1).1, .int .u32 ((Sp.get (bl s) 12 4).1 % 4294967296), .int .u32 ((Sp.get (bl s) 16 4).1 % 4294967296), .string (s.extract 20 hd.toNat)] 24 (0, 0)) → W.heap[A]? = some (.cells #[.string s] 9 (0, 0)) → (W.cell? ⟨A + 1, 0, none⟩ = some (.int .i64 (Sp.get (bl s) 1 1).1) ∧ W.cell? ⟨A + 1, 1, none⟩ = some (.int .i64 (Sp.get (bl s) 4 2).1) ∧ W.cell? ⟨A + 1, 2, none⟩ = some (.int .i64 ((Sp.get (bl s) 6 2).1 / 8192)) ∧ W.cell? ⟨A + 1, 3, none⟩ = some (.int .i64 (Go.bits .and .i64 (Sp.get (bl s) 6 2).1 8191)) ∧ W.cell? ⟨A + 1, 4, none⟩ = some (.int .i64 (Sp.get (bl s) 8 1).1) ∧ W.cell? ⟨A + 1, 5, none⟩ = some (.int .i64 (Sp.get (bl s) 9 1).1) ∧ W.cell? ⟨A + 1, 6, none⟩ = some (.int .u32 ((Sp.get (bl s) 12 4).1 % 4294967296)) ∧ W.cell? ⟨A + 1, 7, none⟩ = some (.int .u32 ((Sp.get (bl s) 16 4).1 % 4294967296)) ∧ W.cell? ⟨A + 1, 8, none⟩ = some (.string (s.extract 20 hd.toNat)) ∧ W.cell? ⟨A, 0, none⟩ = some (.string s)) := fun W hR hS => ⟨(blk_cell hR 0).trans rfl, (blk_cell hR 1).trans rfl, (blk_cell hR 2).trans rfl, (blk_cell hR 3).trans rfl, (blk_cell hR 4).trans rfl, (blk_cell hR 5).trans rfl, (blk_cell hR 6).trans rfl, (blk_cell hR 7).trans rfl, (blk_cell hR 8).trans rfl, (blk_cell hS 0).trans rfl⟩
 refine start_ (n := 8) (S := fun w' => w'.cell? ⟨A + 1, 0, none⟩ = some (.int .i64 (Sp.get (bl s) 1 1).1) ∧ w'.cell? ⟨A + 1, 1, none⟩ = some (.int .i64 (Sp.get (bl s) 4 2).1) ∧ w'.cell? ⟨A + 1, 2, none⟩ = some (.int .i64 ((Sp.get (bl s) 6 2).1 / 8192)) ∧ w'.cell? ⟨A + 1, 3, none⟩ = some (.int .i64 (Go.bits .and .i64 (Sp.get (bl s) 6 2).1 8191)) ∧ w'.cell? ⟨A + 1, 4, none⟩ = some (.int .i64 (Sp.get (bl s) 8 1).1) ∧ w'.cell? ⟨A + 1, 5, none⟩ = some (.int .i64 (Sp.get (bl s) 9 1).1) ∧ w'.cell? ⟨A + 1, 6, none⟩ = some (.int .u32 ((Sp.get (bl s) 12 4).1 % 4294967296)) ∧ w'.cell? ⟨A + 1, 7, none⟩ = some (.int .u32 ((Sp.get (bl s) 16 4).1 % 4294967296)) ∧ w'.cell? ⟨A + 1, 8, none⟩ = some (.string (s.extract 20 hd.toNat)) ∧ w'.cell? ⟨A, 0, none⟩ = some (.string s)) (ds := []) (bm 8 0x0) (by kernel_rfl) rfl rfl (hRS _ (i4_heap_drew hR) (i4_heap_drew hS)) (fun hHeld => ?_)
 have hR' := i4_heap_drew hR
 have hS' := i4_heap_drew hS
 have hB' : Below A w u4.drew := by rw [← hAe.out] at hB ⊢; exact below_drew hB
 clear hR hB hS
 generalize u4.drew = v2 at hR' hS' hB' hHeld ⊢
 clear u4
 have hz0 : 0 ≤ hd := by omega
 have hz1 : hd ≤ tot := by omega
 have hz2 : 0 ≤ tot := by omega
 have x0 : v2.cell? ⟨A + 1, 0, none⟩ = some (.int .i64 (Sp.get (bl s) 1 1).1) := (blk_cell hR' 0).trans rfl
 have x1 : v2.cell? ⟨A + 1, 1, none⟩ = some (.int .i64 (Sp.get (bl s) 4 2).1) := (blk_cell hR' 1).trans rfl
 have x2 : v2.cell? ⟨A + 1, 2, none⟩ = some (.int .i64 ((Sp.get (bl s) 6 2).1 / 8192)) := (blk_cell hR' 2).trans rfl
 have x3 : v2.cell? ⟨A + 1, 3, none⟩ = some (.int .i64 (Go.bits .and .i64 (Sp.get (bl s) 6 2).1 8191)) := (blk_cell hR' 3).trans rfl
 have x4 : v2.cell? ⟨A + 1, 4, none⟩ = some (.int .i64 (Sp.get (bl s) 8 1).1) := (blk_cell hR' 4).trans rfl
 have x5 : v2.cell? ⟨A + 1, 5, none⟩ = some (.int .i64 (Sp.get (bl s) 9 1).1) := (blk_cell hR' 5).trans rfl
 have x6 : v2.cell? ⟨A + 1, 6, none⟩ = some (.int .u32 ((Sp.get (bl s) 12 4).1 % 4294967296)) := (blk_cell hR' 6).trans rfl
 have x7 : v2.cell? ⟨A + 1, 7, none⟩ = some (.int .u32 ((Sp.get (bl s) 16 4).1 % 4294967296)) := (blk_cell hR' 7).trans rfl
 have x8 : v2.cell? ⟨A + 1, 8, none⟩ = some (.string (s.extract 20 hd.toNat)) := (blk_cell hR' 8).trans rfl
 have z0 := blk_frozen hR' 0
 have z1 := blk_frozen hR' 1
 have z2 := blk_frozen hR' 2
 have z3 := blk_frozen hR' 3
 have z4 := blk_frozen hR' 4
 have z5 := blk_frozen hR' 5
 have z6 := blk_frozen hR' 6
 have z7 := blk_frozen hR' 7
 have z8 := blk_frozen hR' 8
 refine take_ (i := 0) (N := some 64) (v := ?_) (a' := ?_) (bm 8 0x1) rfl rfl (by kernel_rfl) (fun _ _ _ h => h) (Or.inl ⟨by rfl, ?_⟩) hHeld ?_ ?_
 rotate_left
 ·intro w' s0
  obtain ⟨s0_, s1_, s2_, s3_, s4_, s5_, s6_, s7_, s8_, s9_⟩ := s0
  go_simp
  with_reducible rfl
 rotate_left
 ·simp only [Act.put, zpA, zpO, zpS, i64_w, i32_w]
  rfl
 refine take_ (i := 1) (N := some 65) (v := ?_) (a' := ?_) (bm 8 0x3) rfl rfl (by kernel_rfl) (fun _ _ _ h => h) (Or.inl ⟨by rfl, ?_⟩) hHeld ?_ ?_
 rotate_left
 ·intro w' s0
  obtain ⟨s0_, s1_, s2_, s3_, s4_, s5_, s6_, s7_, s8_, s9_⟩ := s0
  go_simp
  with_reducible rfl
 rotate_left
 ·simp only [Act.put, zpA, zpO, zpS, i64_w, i32_w]
  rfl
 refine pure_ (i := 2) (N := some 66) (v := ?_) (a' := ?_) (bm 8 0x7) rfl rfl (by kernel_rfl) (fun _ _ _ h => h) (Or.inl ⟨by rfl, ?_⟩) ?_ ?_
 rotate_left
 ·intro w'
  go_simp
  with_reducible rfl
 rotate_left
 ·simp only [Act.put, zpA, zpO, zpS, i64_w, i32_w]
  rfl
 refine pure_ (i := 3) (N := some 67) (v := ?_) (a' := ?_) (bm 8 0xf) rfl rfl (by kernel_rfl) (fun _ _ _ h => h) (Or.inl ⟨by rfl, ?_⟩) ?_ ?_
 rotate_left
 ·intro w'
  go_simp
  with_reducible rfl
 rotate_left
 ·simp only [Act.put, zpA, zpO, zpS, i64_w, i32_w]
  rfl
 refine pure_ (i := 4) (N := some 68) (v := ?_) (a' := ?_) (bm 8 0x1f) rfl rfl (by kernel_rfl) (fun _ _ _ h => h) (Or.inl ⟨by rfl, ?_⟩) ?_ ?_
 rotate_left
 ·intro w'
  go_simp
  with_reducible rfl
 rotate_left
 ·simp only [Act.put, zpA, zpO, zpS, i64_w, i32_w]
  rfl
 refine one_ (i := 5) (N := none) (bm 8 0x3f) rfl rfl (by kernel_rfl) (by decide) (fun K hK => ?_)
 refine skip_ (w1 := ?_) (by rfl) rfl ?_ ?_
 rotate_left
 ·go_simp
  rfl
 refine hK.out _ _ (hRS _ (blk_put (cs' := #[.int .i64 (Sp.get (bl s) 1 1).1, .int .i64 (Sp.get (bl s) 4 2).1, .int .i64 ((Sp.get (bl s) 6 2).1 / 8192), .int .i64 (Go.bits .and .i64 (Sp.get (bl s) 6 2).1 8191), .int .i64 (Sp.get (bl s) 8 1).1, .int .i64 (Sp.get (bl s) 9 1).1, .int .u32 ((Sp.get (bl s) 12 4).1 % 4294967296), .int .u32 ((Sp.get (bl s) 16 4).1 % 4294967296), .string (s.extract 20 hd.toNat)]) (blk_put (cs' := #[.int .i64 (Sp.get (bl s) 1 1).1, .int .i64 (Sp.get (bl s) 4 2).1, .int .i64 ((Sp.get (bl s) 6 2).1 / 8192), .int .i64 (Go.bits .and .i64 (Sp.get (bl s) 6 2).1 8191), .int .i64 (Sp.get (bl s) 8 1).1, .int .i64 (Sp.get (bl s) 9 1).1, .int .u32 ((Sp.get (bl s) 12 4).1 % 4294967296), .int .u32 ((Sp.get (bl s) 16 4).1 % 4294967296), .string (s.extract 20 hd.toNat)]) (blk_put (cs' := #[.int .i64 (Sp.get (bl s) 1 1).1, .int .i64 (Sp.get (bl s) 4 2).1, .int .i64 ((Sp.get (bl s) 6 2).1 / 8192), .int .i64 (Go.bits .and .i64 (Sp.get (bl s) 6 2).1 8191), .int .i64 (Sp.get (bl s) 8 1).1, .int .i64 (Sp.get (bl s) 9 1).1, .int .u32 ((Sp.get (bl s) 12 4).1 % 4294967296), .int .u32 ((Sp.get (bl s) 16 4).1 % 4294967296), .string (s.extract 20 hd.toNat)]) (blk_put (cs' := #[.int .i64 (Sp.get (bl s) 1 1).1, .int .i64 (Sp.get (bl s) 4 2).1, .int .i64 ((Sp.get (bl s) 6 2).1 / 8192), .int .i64 (Go.bits .and .i64 (Sp.get (bl s) 6 2).1 8191), .int .i64 (Sp.get (bl s) 8 1).1, .int .i64 (Sp.get (bl s) 9 1).1, .int .u32 ((Sp.get (bl s) 12 4).1 % 4294967296), .int .u32 ((Sp.get (bl s) 16 4).1 % 4294967296), .string (s.extract 20 hd.toNat)]) (blk_put (cs' := #[.int .i64 (Sp.get (bl s) 1 1).1, .int .i64 (Sp.get (bl s) 4 2).1, .int .i64 ((Sp.get (bl s) 6 2).1 / 8192), .int .i64 (Go.bits .and .i64 (Sp.get (bl s) 6 2).1 8191), .int .i64 (Sp.get (bl s) 8 1).1, .int .i64 (Sp.get (bl s) 9 1).1, .int .u32 ((Sp.get (bl s) 12 4).1 % 4294967296), .int .u32 ((Sp.get (bl s) 16 4).1 % 4294967296), .string (s.extract 20 hd.toNat)]) (blk_put (cs' := #[.int .i64 (Sp.get (bl s) 1 1).1, .int .i64 (Sp.get (bl s) 4 2).1, .int .i64 ((Sp.get (bl s) 6 2).1 / 8192), .int .i64 (Go.bits .and .i64 (Sp.get (bl s) 6 2).1 8191), .int .i64 (Sp.get (bl s) 8 1).1, .int .i64 (Sp.get (bl s) 9 1).1, .int .u32 ((Sp.get (bl s) 12 4).1 % 4294967296), .int .u32 ((Sp.get (bl s) 16 4).1 % 4294967296), .string (s.extract 20 hd.toNat)]) (blk_put (cs' := #[.int .i64 (Sp.get (bl s) 1 1).1, .int .i64 (Sp.get (bl s) 4 2).1, .int .i64 ((Sp.get (bl s) 6 2).1 / 8192), .int .i64 (Go.bits .and .i64 (Sp.get (bl s) 6 2).1 8191), .int .i64 (Sp.get (bl s) 8 1).1, .int .i64 (Sp.get (bl s) 9 1).1, .int .u32 ((Sp.get (bl s) 12 4).1 % 4294967296), .int .u32 ((Sp.get (bl s) 16 4).1 % 4294967296), .string (s.extract 20 hd.toNat)]) (blk_put (cs' := #[.int .i64 (Sp.get (bl s) 1 1).1, .int .i64 (Sp.get (bl s) 4 2).1, .int .i64 ((Sp.get (bl s) 6 2).1 / 8192), .int .i64 (Go.bits .and .i64 (Sp.get (bl s) 6 2).1 8191), .int .i64 (Sp.get (bl s) 8 1).1, .int .i64 (Sp.get (bl s) 9 1).1, .int .u32 ((Sp.get (bl s) 12 4).1 % 4294967296), .int .u32 ((Sp.get (bl s) 16 4).1 % 4294967296), .string (s.extract 20 hd.toNat)]) (blk_put (cs' := #[.int .i64 (Sp.get (bl s) 1 1).1, .int .i64 (Sp.get (bl s) 4 2).1, .int .i64 ((Sp.get (bl s) 6 2).1 / 8192), .int .i64 (Go.bits .and .i64 (Sp.get (bl s) 6 2).1 8191), .int .i64 (Sp.get (bl s) 8 1).1, .int .i64 (Sp.get (bl s) 9 1).1, .int .u32 ((Sp.get (bl s) 12 4).1 % 4294967296), .int .u32 ((Sp.get (bl s) 16 4).1 % 4294967296), .string (s.extract 20 hd.toNat)]) hR' 0 _ rfl) 1 _ rfl) 2 _ rfl) 3 _ rfl) 4 _ rfl) 5 _ rfl) 6 _ rfl) 7 _ rfl) 8 _ rfl) (blk_far (blk_far (blk_far (blk_far (blk_far (blk_far (blk_far (blk_far (blk_far hS' (by show A ≠ A + 1; omega) _) (by show A ≠ A + 1; omega) _) (by show A ≠ A + 1; omega) _) (by show A ≠ A + 1; omega) _) (by show A ≠ A + 1; omega) _) (by show A ≠ A + 1; omega) _) (by show A ≠ A + 1; omega) _) (by show A ≠ A + 1; omega) _) (by show A ≠ A + 1; omega) _)) (fun hHeld2 => ?_)
 clear hK K
 refine pure_ (i := 6) (N := some 3) (v := ?_) (a' := ?_) (bm 8 0x7f) rfl rfl (by kernel_rfl) (fun _ _ _ h => h) (Or.inl ⟨by rfl, ?_⟩) ?_ ?_
 rotate_left
 ·intro w'
  go_simp
  with_reducible rfl
 rotate_left
 ·simp only [Act.put, zpA, zpO, zpS, i64_w, i32_w]
  rfl
 refine pure_ (i := 7) (N := some 4) (v := ?_) (a' := ?_) (bm 8 0xff) rfl rfl (by kernel_rfl) (fun _ _ _ h => h) (Or.inl ⟨by rfl, ?_⟩) ?_ ?_
 rotate_left
 ·intro w'
  go_simp
  with_reducible rfl
 rotate_left
 ·simp only [Act.put, zpA, zpO, zpS, i64_w, i32_w]
  rfl
 refine done_ (by kernel_rfl) ?_
 go_wp2_with (fail)
 (try simp only [Exit.inBlock, Exit.then])
 refine bodyPost_ret (results_ctt rfl _ _ (A + 1) 24 #[.int .i64 (Sp.get (bl s) 1 1).1, .int .i64 (Sp.get (bl s) 4 2).1, .int .i64 ((Sp.get (bl s) 6 2).1 / 8192), .int .i64 (Go.bits .and .i64 (Sp.get (bl s) 6 2).1 8191), .int .i64 (Sp.get (bl s) 8 1).1, .int .i64 (Sp.get (bl s) 9 1).1, .int .u32 ((Sp.get (bl s) 12 4).1 % 4294967296), .int .u32 ((Sp.get (bl s) 16 4).1 % 4294967296), .string (s.extract 20 hd.toNat)] (0, 0) _ rfl ?_ Try.underlying24 rfl (by kernel_rfl)) rfl ?_
 ·exact (blk_put (cs' := #[.int .i64 (Sp.get (bl s) 1 1).1, .int .i64 (Sp.get (bl s) 4 2).1, .int .i64 ((Sp.get (bl s) 6 2).1 / 8192), .int .i64 (Go.bits .and .i64 (Sp.get (bl s) 6 2).1 8191), .int .i64 (Sp.get (bl s) 8 1).1, .int .i64 (Sp.get (bl s) 9 1).1, .int .u32 ((Sp.get (bl s) 12 4).1 % 4294967296), .int .u32 ((Sp.get (bl s) 16 4).1 % 4294967296), .string (s.extract 20 hd.toNat)]) (blk_put (cs' := #[.int .i64 (Sp.get (bl s) 1 1).1, .int .i64 (Sp.get (bl s) 4 2).1, .int .i64 ((Sp.get (bl s) 6 2).1 / 8192), .int .i64 (Go.bits .and .i64 (Sp.get (bl s) 6 2).1 8191), .int .i64 (Sp.get (bl s) 8 1).1, .int .i64 (Sp.get (bl s) 9 1).1, .int .u32 ((Sp.get (bl s) 12 4).1 % 4294967296), .int .u32 ((Sp.get (bl s) 16 4).1 % 4294967296), .string (s.extract 20 hd.toNat)]) (blk_put (cs' := #[.int .i64 (Sp.get (bl s) 1 1).1, .int .i64 (Sp.get (bl s) 4 2).1, .int .i64 ((Sp.get (bl s) 6 2).1 / 8192), .int .i64 (Go.bits .and .i64 (Sp.get (bl s) 6 2).1 8191), .int .i64 (Sp.get (bl s) 8 1).1, .int .i64 (Sp.get (bl s) 9 1).1, .int .u32 ((Sp.get (bl s) 12 4).1 % 4294967296), .int .u32 ((Sp.get (bl s) 16 4).1 % 4294967296), .string (s.extract 20 hd.toNat)]) (blk_put (cs' := #[.int .i64 (Sp.get (bl s) 1 1).1, .int .i64 (Sp.get (bl s) 4 2).1, .int .i64 ((Sp.get (bl s) 6 2).1 / 8192), .int .i64 (Go.bits .and .i64 (Sp.get (bl s) 6 2).1 8191), .int .i64 (Sp.get (bl s) 8 1).1, .int .i64 (Sp.get (bl s) 9 1).1, .int .u32 ((Sp.get (bl s) 12 4).1 % 4294967296), .int .u32 ((Sp.get (bl s) 16 4).1 % 4294967296), .string (s.extract 20 hd.toNat)]) (blk_put (cs' := #[.int .i64 (Sp.get (bl s) 1 1).1, .int .i64 (Sp.get (bl s) 4 2).1, .int .i64 ((Sp.get (bl s) 6 2).1 / 8192), .int .i64 (Go.bits .and .i64 (Sp.get (bl s) 6 2).1 8191), .int .i64 (Sp.get (bl s) 8 1).1, .int .i64 (Sp.get (bl s) 9 1).1, .int .u32 ((Sp.get (bl s) 12 4).1 % 4294967296), .int .u32 ((Sp.get (bl s) 16 4).1 % 4294967296), .string (s.extract 20 hd.toNat)]) (blk_put (cs' := #[.int .i64 (Sp.get (bl s) 1 1).1, .int .i64 (Sp.get (bl s) 4 2).1, .int .i64 ((Sp.get (bl s) 6 2).1 / 8192), .int .i64 (Go.bits .and .i64 (Sp.get (bl s) 6 2).1 8191), .int .i64 (Sp.get (bl s) 8 1).1, .int .i64 (Sp.get (bl s) 9 1).1, .int .u32 ((Sp.get (bl s) 12 4).1 % 4294967296), .int .u32 ((Sp.get (bl s) 16 4).1 % 4294967296), .string (s.extract 20 hd.toNat)]) (blk_put (cs' := #[.int .i64 (Sp.get (bl s) 1 1).1, .int .i64 (Sp.get (bl s) 4 2).1, .int .i64 ((Sp.get (bl s) 6 2).1 / 8192), .int .i64 (Go.bits .and .i64 (Sp.get (bl s) 6 2).1 8191), .int .i64 (Sp.get (bl s) 8 1).1, .int .i64 (Sp.get (bl s) 9 1).1, .int .u32 ((Sp.get (bl s) 12 4).1 % 4294967296), .int .u32 ((Sp.get (bl s) 16 4).1 % 4294967296), .string (s.extract 20 hd.toNat)]) (blk_put (cs' := #[.int .i64 (Sp.get (bl s) 1 1).1, .int .i64 (Sp.get (bl s) 4 2).1, .int .i64 ((Sp.get (bl s) 6 2).1 / 8192), .int .i64 (Go.bits .and .i64 (Sp.get (bl s) 6 2).1 8191), .int .i64 (Sp.get (bl s) 8 1).1, .int .i64 (Sp.get (bl s) 9 1).1, .int .u32 ((Sp.get (bl s) 12 4).1 % 4294967296), .int .u32 ((Sp.get (bl s) 16 4).1 % 4294967296), .string (s.extract 20 hd.toNat)]) (blk_put (cs' := #[.int .i64 (Sp.get (bl s) 1 1).1, .int .i64 (Sp.get (bl s) 4 2).1, .int .i64 ((Sp.get (bl s) 6 2).1 / 8192), .int .i64 (Go.bits .and .i64 (Sp.get (bl s) 6 2).1 8191), .int .i64 (Sp.get (bl s) 8 1).1, .int .i64 (Sp.get (bl s) 9 1).1, .int .u32 ((Sp.get (bl s) 12 4).1 % 4294967296), .int .u32 ((Sp.get (bl s) 16 4).1 % 4294967296), .string (s.extract 20 hd.toNat)]) hR' 0 _ rfl) 1 _ rfl) 2 _ rfl) 3 _ rfl) 4 _ rfl) 5 _ rfl) 6 _ rfl) 7 _ rfl) 8 _ rfl)
 refine ⟨rfl, ?_⟩
 rw [hAe.out]
 exact (Below.setCell (Below.setCell (Below.setCell (Below.setCell (Below.setCell (Below.setCell (Below.setCell (Below.setCell (Below.setCell hB' (show A ≤ A + 1 by omega) _) (show A ≤ A + 1 by omega) _) (show A ≤ A + 1 by omega) _) (show A ≤ A + 1 by omega) _) (show A ≤ A + 1 by omega) _) (show A ≤ A + 1 by omega) _) (show A ≤ A + 1 by omega) _) (show A ≤ A + 1 by omega) _) (show A ≤ A + 1 by omega) _)
theorem i4_small (s : List UInt8) (a b : Int) : 0 ≤ (Sp.get s a b).1 ∧ (Sp.get s a b).1 < 4294967296 := by
 unfold Sp.get
 split
 case isFalse => exact ⟨by decide, by decide⟩
 case isTrue h =>
  have hf := Sp.has_iff.1 h
  exact Sp.beNum_small _ (by rw [List.length_take]; omega)
theorem i4_and {x : Int} (h : 0 ≤ x ∧ x < 4294967296) : Go.bits .and .i64 x 8191 = x % 8192 := by
 obtain ⟨n, rfl⟩ : ∃ n : Nat, x = (n : Int) := ⟨x.toNat, by omega⟩
 have e : Go.bits .and .i64 ((n : Nat) : Int) 8191 = IntKind.i64.wrap ((BitVec.ofInt 64 ((n : Nat) : Int) &&& BitVec.ofInt 64 8191).toNat : Int) := rfl
 rw [e, BitVec.toNat_and, BitVec.ofInt_natCast, BitVec.toNat_ofNat, Nat.mod_eq_of_lt (show n < 2 ^ 64 by omega), show (BitVec.ofInt 64 8191).toNat = 2 ^ 13 - 1 from rfl, Nat.and_two_pow_sub_one_eq_mod, IntKind.wrap_i64]
 omega
theorem ip4_parse_any (s : ByteArray) (hs : s.size ≤ 140737488355328) (w : World) : Calls Try.prog 18 #[.string s] w fun e w' => e = .returned (.tuple #[.agg #[.int .i64 (Sp.ip4Parse (bl s)).tos, .int .i64 (Sp.ip4Parse (bl s)).id, .int .i64 (Sp.ip4Parse (bl s)).flags, .int .i64 (Sp.ip4Parse (bl s)).frag, .int .i64 (Sp.ip4Parse (bl s)).ttl, .int .i64 (Sp.ip4Parse (bl s)).proto, .int .u32 (Sp.ip4Parse (bl s)).src, .int .u32 (Sp.ip4Parse (bl s)).dst, .string (lb (Sp.ip4Parse (bl s)).opts)], .string (lb (Sp.ip4Parse (bl s)).body), .int .i64 (Sp.ip4Parse (bl s)).e]) ∧ Below w.heap.size w w' := by
 have hl := bl_length s
 have HZ := fun W => ip4_sizes.calls s (Sp.ip4Sizes (bl s)).1 (Sp.ip4Sizes (bl s)).2.1 (Sp.ip4Sizes (bl s)).2.2 W (ip4_sizes_eq hs)
 by_cases h0 : (Sp.ip4Sizes (bl s)).2.2 = 0
 rotate_left
 ·have h := ip4_parse_sizes s w hs _ _ _ HZ h0
  have e : Sp.ip4Parse (bl s) = Sp.ip4None (Sp.ip4Sizes (bl s)).2.2 := by unfold Sp.ip4Parse; rw [if_neg h0]
  rw [e]; exact h
 obtain ⟨z1, z2, z3, z4, z5, z6, z7, ez⟩ := Sp.ip4Sizes_ok h0
 have e1 : (Sp.ip4Sizes (bl s)).1 = Sp.ip4Len (bl s) := by rw [ez]
 have e2 : (Sp.ip4Sizes (bl s)).2.1 = Sp.ip4Tot (bl s) := by rw [ez]
 have hx : ∀ i j : Nat, s.extract i j = lb (((bl s).take j).drop i) := fun i j => Sp.bl_inj (by rw [bl_extract, bl_lb])
 have HC := fun W => cksum_Sum.calls (s.extract 0 (Sp.ip4Len (bl s)).toNat) (Sp.sum ((bl s).take (Sp.ip4Len (bl s)).toNat)) W (by rw [cksum_Sum_eq (by rw [ByteArray.size_extract]; omega), bl_extract, List.drop_zero])
 have HO := fun W => (ip4_OptsRight.calls (s.extract 20 (Sp.ip4Len (bl s)).toNat) (Sp.optsOk (((bl s).take (Sp.ip4Len (bl s)).toNat).drop 20)) W (by rw [ip4_OptsRight_eq (by rw [ByteArray.size_extract]; omega), bl_extract])).mono (fun e w' h => And.intro h.1 h.2.below)
 rw [e1, e2] at HZ
 by_cases hc : Sp.sum ((bl s).take (Sp.ip4Len (bl s)).toNat) = 65535
 ·by_cases ho : Sp.optsOk (((bl s).take (Sp.ip4Len (bl s)).toNat).drop 20) = true
  ·have h := ip4_parse_ok s w hs _ _ _ HZ h0 z3 z5 (by omega) _ HC hc _ HO ho
   have e : Sp.ip4Parse (bl s) = Sp.ip4Fields (bl s) (Sp.ip4Len (bl s)) (Sp.ip4Tot (bl s)) := by unfold Sp.ip4Parse; rw [if_pos h0, if_pos hc, if_pos ho]
   rw [hx 20, hx, i4_and (i4_small _ _ _), Int.emod_eq_of_lt (i4_small (bl s) 12 4).1 (i4_small (bl s) 12 4).2, Int.emod_eq_of_lt (i4_small (bl s) 16 4).1 (i4_small (bl s) 16 4).2] at h
   rw [e]; exact h
  have h := ip4_parse_opts s w hs _ _ _ HZ h0 z3 z5 (by omega) _ HC hc _ HO (Sp.bool_no ho)
  have e : Sp.ip4Parse (bl s) = Sp.ip4None 6 := by unfold Sp.ip4Parse; rw [if_pos h0, if_pos hc, if_neg ho]
  rw [e]; exact h
 have h := ip4_parse_sum s w hs _ _ _ HZ h0 z3 z5 (by omega) _ HC hc
 have e : Sp.ip4Parse (bl s) = Sp.ip4None 7 := by unfold Sp.ip4Parse; rw [if_pos h0, if_neg hc]
 rw [e]; exact h
def ip4_Parse.f (a0 : ByteArray) : Option (Int × Int × Int × Int × Int × Int × Int × Int × ByteArray × ByteArray × Int) := if a0.size ≤ 140737488355328 then some ((Sp.ip4Parse (bl a0)).tos, (Sp.ip4Parse (bl a0)).id, (Sp.ip4Parse (bl a0)).flags, (Sp.ip4Parse (bl a0)).frag, (Sp.ip4Parse (bl a0)).ttl, (Sp.ip4Parse (bl a0)).proto, (Sp.ip4Parse (bl a0)).src, (Sp.ip4Parse (bl a0)).dst, lb (Sp.ip4Parse (bl a0)).opts, lb (Sp.ip4Parse (bl a0)).body, (Sp.ip4Parse (bl a0)).e) else none
theorem ip4_Parse_eq {a0 : ByteArray} (h : a0.size ≤ 140737488355328) : ip4_Parse.f a0 = some ((Sp.ip4Parse (bl a0)).tos, (Sp.ip4Parse (bl a0)).id, (Sp.ip4Parse (bl a0)).flags, (Sp.ip4Parse (bl a0)).frag, (Sp.ip4Parse (bl a0)).ttl, (Sp.ip4Parse (bl a0)).proto, (Sp.ip4Parse (bl a0)).src, (Sp.ip4Parse (bl a0)).dst, lb (Sp.ip4Parse (bl a0)).opts, lb (Sp.ip4Parse (bl a0)).body, (Sp.ip4Parse (bl a0)).e) := by unfold ip4_Parse.f; exact if_pos h
theorem ip4_Parse.calls (a0 : ByteArray) (r1 : Int) (r2 : Int) (r3 : Int) (r4 : Int) (r5 : Int) (r6 : Int) (r7 : Int) (r8 : Int) (r9 : ByteArray) (r10 : ByteArray) (r11 : Int) (w : World) (h : ip4_Parse.f a0 = some (r1, r2, r3, r4, r5, r6, r7, r8, r9, r10, r11)) :
  Calls Try.prog 18 #[.string a0] w fun e w' => e = .returned (.tuple #[.agg #[.int .i64 r1, .int .i64 r2, .int .i64 r3, .int .i64 r4, .int .i64 r5, .int .i64 r6, .int .u32 r7, .int .u32 r8, .string r9], .string r10, .int .i64 r11]) ∧ Below w.heap.size w w' := by
 unfold ip4_Parse.f at h
 split at h
 case isFalse => cases h
 case isTrue hs =>
  have h := Option.some.inj h
  simp only [Prod.mk.injEq] at h
  obtain ⟨rfl, rfl, rfl, rfl, rfl, rfl, rfl, rfl, rfl, rfl, rfl⟩ := h
  exact ip4_parse_any a0 hs w

/-! ### ip4_Size: function 21 -/
def ip4_Size.f (a0 : ByteArray) : Option (Int × Int × Bool) := (ip4_sizes.f a0).bind fun bt499 => (some (bt499.1, bt499.2.1, (bt499.2.2 == 0)))
end Go.Proofs.Ythdaldicdhpnoaa.Pr
