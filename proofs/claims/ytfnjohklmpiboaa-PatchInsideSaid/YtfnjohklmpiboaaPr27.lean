-- trimmed by trims.py
-- Written by a program of the session (wip/tools) out of the translation, over the kit's print; with pieces of the session's own.
import Derived.Test.YtfnjohklmpiboaaPr0
import Derived.Test.YtfnjohklmpiboaaPr9
import Derived.Test.YtfnjohklmpiboaaPr17
import Derived.Test.YtfnjohklmpiboaaPr19
namespace Go.Proofs.Ytfnjohklmpiboaa.Pr
open Go.RowKit Go.Proofs.YtfnjohklmpiboaaW.PrintWords Go.Proofs.YtfnjohklmpiboaaW.PrintLast Go.Proofs.YtfnjohklmpiboaaW.PrintMore
attribute [local go_sem] max2_int min2_int max_two min_two max_three min_three max_four min_four   -- for this text's walks alone
set_option linter.unusedVariables false
set_option linter.unusedSimpArgs false
open Go.Proofs.Ytfnjohklmpiboaa.Sp
/-! ### weighbridgelaw10_PatchInside: function 6 -/
def weighbridgelaw10_PatchInside.f (a0_0 : Int) (a0_1 : Int) (a0_2 : Int) (a0_3 : Int) (a0_4 : Int) (a0_5 : Int) (a0_6 : Int) (a0_7 : ByteArray) (a0_8 : Bool) (a0_9 : Int) (a0_10 : Int) (a1 : Int) (a2 : Int) (a3 : Int) (a4 : Int) : Option (Bool) := (weighbridgelaw10_examples.f).bind fun t528 => (if t528 = true then ((weighbridgelaw10_Make_frame.f ((2 + (Int.tmod a0_0 2)) % 256) a0_1 a0_2 a0_3 a0_4 a0_5 (mx a0_6 3) a0_7 a0_8 a0_9 a0_10).bind fun t529 => ((patch_About.f t529 a1 a2 a0_10 a0_9 (wrap64 (a3)) (wrap64 (a4))).bind fun bt530 => ((packet_Classify.f bt530.1).bind fun bt532 => ((patch_About.f bt530.1 a0_9 a0_10 a0_1 a0_2 (wrap64 (a0_3)) (wrap64 (a0_4))).bind fun bt548 => ((packet_Classify.f bt548.1).bind fun bt550 => (if bt530.2 = 0 then (if bt532.2.2.2.2.2.2.2.2.2.2.2.2.2.2 = 0 then (if bt548.2 = 0 then (if bt550.2.2.2.2.2.2.2.2.2.2.2.2.2.2 = 0 then (if (bt548.1.size : Int) = (t529.size : Int) then (if (bt530.1.size : Int) = (t529.size : Int) then (if bt532.2.2.2.2.2.2.2.2.2.2.1 = a1 then (if bt532.2.2.2.2.2.2.2.2.2.2.2.1 = a2 then (if bt532.2.2.2.2.1 = a0_10 then (if bt532.2.2.2.2.2.1 = a0_9 then (if bt532.2.2.2.2.2.2.1 = (wrap64 (a3)) then (if bt532.2.2.2.2.2.2.2.1 = (wrap64 (a4)) then (if bt550.2.2.2.2.2.2.2.2.2.2.1 = a0_9 then (if bt550.2.2.2.2.2.2.2.2.2.2.2.1 = a0_10 then (if bt550.2.2.2.2.1 = a0_1 then (if bt550.2.2.2.2.2.1 = a0_2 then (if bt550.2.2.2.2.2.2.1 = (wrap64 (a0_3)) then (if bt550.2.2.2.2.2.2.2.1 = (wrap64 (a0_4)) then (if 28 ≤ 38 then (if 38 ≤ (bt548.1.size : Int) then (if 38 ≤ (t529.size : Int) then (if (bt548.1.extract 28 38).toList = (t529.extract 28 38).toList then (if 40 ≤ 48 then (if 48 ≤ (bt548.1.size : Int) then (if 48 ≤ (t529.size : Int) then (some ((bt548.1.extract 40 48).toList == (t529.extract 40 48).toList)) else (none)) else (none)) else (none)) else (some false)) else (none)) else (none)) else (none)) else (some false)) else (some false)) else (some false)) else (some false)) else (some false)) else (some false)) else (some false)) else (some false)) else (some false)) else (some false)) else (some false)) else (some false)) else (some false)) else (some false)) else (some false)) else (some false)) else (some false)) else (some false))))))) else (some false))
set_option maxHeartbeats 8000000 in
set_option maxRecDepth 100000 in
theorem weighbridgelaw10_PatchInside.calls (a0_0 : Int) (a0_1 : Int) (a0_2 : Int) (a0_3 : Int) (a0_4 : Int) (a0_5 : Int) (a0_6 : Int) (a0_7 : ByteArray) (a0_8 : Bool) (a0_9 : Int) (a0_10 : Int) (a1 : Int) (a2 : Int) (a3 : Int) (a4 : Int) (r : Bool) (w : World) (h : weighbridgelaw10_PatchInside.f a0_0 a0_1 a0_2 a0_3 a0_4 a0_5 a0_6 a0_7 a0_8 a0_9 a0_10 a1 a2 a3 a4 = some r) (hr_ : r = true) :
  Calls Try.prog 6 #[.agg #[.int .u8 a0_0, .int .u32 a0_1, .int .u32 a0_2, .int .u16 a0_3, .int .u16 a0_4, .int .u8 a0_5, .int .u8 a0_6, .string a0_7, .bool a0_8, .int .u32 a0_9, .int .u32 a0_10], .int .u32 a1, .int .u32 a2, .int .u16 a3, .int .u16 a4] w fun e w' => e = .returned (.bool r) ∧ Below w.heap.size w w' := by
 have hu25 := Try.underlying25
 have hu27 := Try.underlying27
 have hu42 := Try.underlying42
 have HB := Aside0.mk (Below.refl w.heap.size w)
 have H := h
 unfold weighbridgelaw10_PatchInside.f at H
 clear h
 replace H := Option.bind_eq_some_iff.mp H
 obtain ⟨t528, A60, H⟩ := H
 (try set_option simprocs false in dsimp only at H)
 have A6 := Aside0.mk A60
 clear A60
 by_cases c7 : t528 = true
 rotate_left
 ·replace c7 := Bool.eq_false_iff.mpr c7
  subst c7
  have H1 : (some false) = some r := by rw [if_neg (show ¬ (false = true) by decide)] at H; exact H
  clear H
  have H := H1
  clear H1
  exact absurd ((Option.some.inj H).trans hr_) (by decide)
 subst c7
 first | rw [if_pos rfl] at H | rw [if_pos trivial] at H
 obtain ⟨ji8, hji8⟩ : ∃ j_ : Int, (mx a0_6 3) = j_ := ⟨_, rfl⟩
 replace H : ((weighbridgelaw10_Make_frame.f ((2 + (Int.tmod a0_0 2)) % 256) a0_1 a0_2 a0_3 a0_4 a0_5 (ji8) a0_7 a0_8 a0_9 a0_10).bind fun t529 => ((patch_About.f t529 a1 a2 a0_10 a0_9 (wrap64 (a3)) (wrap64 (a4))).bind fun bt530 => ((packet_Classify.f bt530.1).bind fun bt532 => ((patch_About.f bt530.1 a0_9 a0_10 a0_1 a0_2 (wrap64 (a0_3)) (wrap64 (a0_4))).bind fun bt548 => ((packet_Classify.f bt548.1).bind fun bt550 => (if bt530.2 = 0 then (if bt532.2.2.2.2.2.2.2.2.2.2.2.2.2.2 = 0 then (if bt548.2 = 0 then (if bt550.2.2.2.2.2.2.2.2.2.2.2.2.2.2 = 0 then (if (bt548.1.size : Int) = (t529.size : Int) then (if (bt530.1.size : Int) = (t529.size : Int) then (if bt532.2.2.2.2.2.2.2.2.2.2.1 = a1 then (if bt532.2.2.2.2.2.2.2.2.2.2.2.1 = a2 then (if bt532.2.2.2.2.1 = a0_10 then (if bt532.2.2.2.2.2.1 = a0_9 then (if bt532.2.2.2.2.2.2.1 = (wrap64 (a3)) then (if bt532.2.2.2.2.2.2.2.1 = (wrap64 (a4)) then (if bt550.2.2.2.2.2.2.2.2.2.2.1 = a0_9 then (if bt550.2.2.2.2.2.2.2.2.2.2.2.1 = a0_10 then (if bt550.2.2.2.2.1 = a0_1 then (if bt550.2.2.2.2.2.1 = a0_2 then (if bt550.2.2.2.2.2.2.1 = (wrap64 (a0_3)) then (if bt550.2.2.2.2.2.2.2.1 = (wrap64 (a0_4)) then (if 28 ≤ 38 then (if 38 ≤ (bt548.1.size : Int) then (if 38 ≤ (t529.size : Int) then (if (bt548.1.extract 28 38).toList = (t529.extract 28 38).toList then (if 40 ≤ 48 then (if 48 ≤ (bt548.1.size : Int) then (if 48 ≤ (t529.size : Int) then (some ((bt548.1.extract 40 48).toList == (t529.extract 40 48).toList)) else (none)) else (none)) else (none)) else (some false)) else (none)) else (none)) else (none)) else (some false)) else (some false)) else (some false)) else (some false)) else (some false)) else (some false)) else (some false)) else (some false)) else (some false)) else (some false)) else (some false)) else (some false)) else (some false)) else (some false)) else (some false)) else (some false)) else (some false)) else (some false))))))) = some r := by first | (rw [hji8] at H; exact H) | (simp only [hji8] at H ⊢; exact H)
 (try rw [hji8] at A6)
 (try (have hji8l : 3 ≤ ji8 := by (rw [← hji8]; unfold mx; (repeat' split) <;> omega)))
 (try (have hji8m : 0 ≤ ji8 := by omega))
 have hji8_ : (if a0_6 < 3 then 3 else a0_6) = ji8 := hji8
 replace H := Option.bind_eq_some_iff.mp H
 obtain ⟨t529, A90, H⟩ := H
 (try set_option simprocs false in dsimp only at H)
 have A9 := Aside0.mk A90
 clear A90
 replace H := Option.bind_eq_some_iff.mp H
 obtain ⟨⟨t530, t531⟩, A100, H⟩ := H
 (try set_option simprocs false in dsimp only at H)
 have A10 := Aside0.mk A100
 clear A100
 replace H := Option.bind_eq_some_iff.mp H
 obtain ⟨⟨t532, t533, t534, t535, t536, t537, t538, t539, t540, t541, t542, t543, t544, t545, t546⟩, A110, H⟩ := H
 (try set_option simprocs false in dsimp only at H)
 have A11 := Aside0.mk A110
 clear A110
 replace H := Option.bind_eq_some_iff.mp H
 obtain ⟨⟨t548, t549⟩, A120, H⟩ := H
 (try set_option simprocs false in dsimp only at H)
 have A12 := Aside0.mk A120
 clear A120
 replace H := Option.bind_eq_some_iff.mp H
 obtain ⟨⟨t550, t551, t552, t553, t554, t555, t556, t557, t558, t559, t560, t561, t562, t563, t564⟩, A130, H⟩ := H
 (try set_option simprocs false in dsimp only at H)
 have A13 := Aside0.mk A130
 clear A130
 by_cases c14 : t531 = 0
 rotate_left
 ·rw [if_neg c14] at H
  have c14b0 : (t531 == 0) = false := beq_eq_false_iff_ne.mpr c14
  have c14b1 : (t531 != 0) = true := bne_iff_ne.mpr c14
  exact absurd ((Option.some.inj H).trans hr_) (by decide)
 rw [if_pos c14] at H
 have c14b0 : (t531 == 0) = true := beq_iff_eq.mpr c14
 have c14b1 : (t531 != 0) = false := bne_eq_false_iff_eq.mpr c14
 clear c14
 by_cases c15 : t546 = 0
 rotate_left
 ·rw [if_neg c15] at H
  have c15b0 : (t546 == 0) = false := beq_eq_false_iff_ne.mpr c15
  have c15b1 : (t546 != 0) = true := bne_iff_ne.mpr c15
  exact absurd ((Option.some.inj H).trans hr_) (by decide)
 rw [if_pos c15] at H
 have c15b0 : (t546 == 0) = true := beq_iff_eq.mpr c15
 have c15b1 : (t546 != 0) = false := bne_eq_false_iff_eq.mpr c15
 clear c15
 by_cases c16 : t549 = 0
 rotate_left
 ·rw [if_neg c16] at H
  have c16b0 : (t549 == 0) = false := beq_eq_false_iff_ne.mpr c16
  have c16b1 : (t549 != 0) = true := bne_iff_ne.mpr c16
  exact absurd ((Option.some.inj H).trans hr_) (by decide)
 rw [if_pos c16] at H
 have c16b0 : (t549 == 0) = true := beq_iff_eq.mpr c16
 have c16b1 : (t549 != 0) = false := bne_eq_false_iff_eq.mpr c16
 clear c16
 by_cases c17 : t564 = 0
 rotate_left
 ·rw [if_neg c17] at H
  have c17b0 : (t564 == 0) = false := beq_eq_false_iff_ne.mpr c17
  have c17b1 : (t564 != 0) = true := bne_iff_ne.mpr c17
  exact absurd ((Option.some.inj H).trans hr_) (by decide)
 rw [if_pos c17] at H
 have c17b0 : (t564 == 0) = true := beq_iff_eq.mpr c17
 have c17b1 : (t564 != 0) = false := bne_eq_false_iff_eq.mpr c17
 clear c17
 by_cases c18 : (t548.size : Int) = (t529.size : Int)
 rotate_left
 ·rw [if_neg c18] at H
  have c18b0 : ((t548.size : Int) == (t529.size : Int)) = false := beq_eq_false_iff_ne.mpr c18
  have c18b1 : ((t548.size : Int) != (t529.size : Int)) = true := bne_iff_ne.mpr c18
  have c18b2 : (t548.size == t529.size) = false := by first | simpa using c18 | (simp at c18 ⊢; omega)
  exact absurd ((Option.some.inj H).trans hr_) (by decide)
 rw [if_pos c18] at H
 have c18b0 : ((t548.size : Int) == (t529.size : Int)) = true := beq_iff_eq.mpr c18
 have c18b1 : ((t548.size : Int) != (t529.size : Int)) = false := bne_eq_false_iff_eq.mpr c18
 have c18b2 : (t548.size == t529.size) = true := by first | simpa using c18 | (simp at c18 ⊢; omega)
 clear c18
 by_cases c19 : (t530.size : Int) = (t529.size : Int)
 rotate_left
 ·rw [if_neg c19] at H
  have c19b0 : ((t530.size : Int) == (t529.size : Int)) = false := beq_eq_false_iff_ne.mpr c19
  have c19b1 : ((t530.size : Int) != (t529.size : Int)) = true := bne_iff_ne.mpr c19
  have c19b2 : (t530.size == t529.size) = false := by first | simpa using c19 | (simp at c19 ⊢; omega)
  exact absurd ((Option.some.inj H).trans hr_) (by decide)
 rw [if_pos c19] at H
 have c19b0 : ((t530.size : Int) == (t529.size : Int)) = true := beq_iff_eq.mpr c19
 have c19b1 : ((t530.size : Int) != (t529.size : Int)) = false := bne_eq_false_iff_eq.mpr c19
 have c19b2 : (t530.size == t529.size) = true := by first | simpa using c19 | (simp at c19 ⊢; omega)
 clear c19
 by_cases c20 : t542 = a1
 rotate_left
 ·rw [if_neg c20] at H
  have c20b0 : (t542 == a1) = false := beq_eq_false_iff_ne.mpr c20
  have c20b1 : (t542 != a1) = true := bne_iff_ne.mpr c20
  exact absurd ((Option.some.inj H).trans hr_) (by decide)
 rw [if_pos c20] at H
 have c20b0 : (t542 == a1) = true := beq_iff_eq.mpr c20
 have c20b1 : (t542 != a1) = false := bne_eq_false_iff_eq.mpr c20
 clear c20
 by_cases c21 : t543 = a2
 rotate_left
 ·rw [if_neg c21] at H
  have c21b0 : (t543 == a2) = false := beq_eq_false_iff_ne.mpr c21
  have c21b1 : (t543 != a2) = true := bne_iff_ne.mpr c21
  exact absurd ((Option.some.inj H).trans hr_) (by decide)
 rw [if_pos c21] at H
 have c21b0 : (t543 == a2) = true := beq_iff_eq.mpr c21
 have c21b1 : (t543 != a2) = false := bne_eq_false_iff_eq.mpr c21
 clear c21
 by_cases c22 : t536 = a0_10
 rotate_left
 ·rw [if_neg c22] at H
  have c22b0 : (t536 == a0_10) = false := beq_eq_false_iff_ne.mpr c22
  have c22b1 : (t536 != a0_10) = true := bne_iff_ne.mpr c22
  exact absurd ((Option.some.inj H).trans hr_) (by decide)
 rw [if_pos c22] at H
 have c22b0 : (t536 == a0_10) = true := beq_iff_eq.mpr c22
 have c22b1 : (t536 != a0_10) = false := bne_eq_false_iff_eq.mpr c22
 clear c22
 by_cases c23 : t537 = a0_9
 rotate_left
 ·rw [if_neg c23] at H
  have c23b0 : (t537 == a0_9) = false := beq_eq_false_iff_ne.mpr c23
  have c23b1 : (t537 != a0_9) = true := bne_iff_ne.mpr c23
  exact absurd ((Option.some.inj H).trans hr_) (by decide)
 rw [if_pos c23] at H
 have c23b0 : (t537 == a0_9) = true := beq_iff_eq.mpr c23
 have c23b1 : (t537 != a0_9) = false := bne_eq_false_iff_eq.mpr c23
 clear c23
 by_cases c24 : t538 = (wrap64 (a3))
 rotate_left
 ·rw [if_neg c24] at H
  have c24b0 : (t538 == (wrap64 (a3))) = false := beq_eq_false_iff_ne.mpr c24
  have c24b1 : (t538 != (wrap64 (a3))) = true := bne_iff_ne.mpr c24
  exact absurd ((Option.some.inj H).trans hr_) (by decide)
 rw [if_pos c24] at H
 have c24b0 : (t538 == (wrap64 (a3))) = true := beq_iff_eq.mpr c24
 have c24b1 : (t538 != (wrap64 (a3))) = false := bne_eq_false_iff_eq.mpr c24
 clear c24
 by_cases c25 : t539 = (wrap64 (a4))
 rotate_left
 ·rw [if_neg c25] at H
  have c25b0 : (t539 == (wrap64 (a4))) = false := beq_eq_false_iff_ne.mpr c25
  have c25b1 : (t539 != (wrap64 (a4))) = true := bne_iff_ne.mpr c25
  exact absurd ((Option.some.inj H).trans hr_) (by decide)
 rw [if_pos c25] at H
 have c25b0 : (t539 == (wrap64 (a4))) = true := beq_iff_eq.mpr c25
 have c25b1 : (t539 != (wrap64 (a4))) = false := bne_eq_false_iff_eq.mpr c25
 clear c25
 by_cases c26 : t560 = a0_9
 rotate_left
 ·rw [if_neg c26] at H
  have c26b0 : (t560 == a0_9) = false := beq_eq_false_iff_ne.mpr c26
  have c26b1 : (t560 != a0_9) = true := bne_iff_ne.mpr c26
  exact absurd ((Option.some.inj H).trans hr_) (by decide)
 rw [if_pos c26] at H
 have c26b0 : (t560 == a0_9) = true := beq_iff_eq.mpr c26
 have c26b1 : (t560 != a0_9) = false := bne_eq_false_iff_eq.mpr c26
 clear c26
 by_cases c27 : t561 = a0_10
 rotate_left
 ·rw [if_neg c27] at H
  have c27b0 : (t561 == a0_10) = false := beq_eq_false_iff_ne.mpr c27
  have c27b1 : (t561 != a0_10) = true := bne_iff_ne.mpr c27
  exact absurd ((Option.some.inj H).trans hr_) (by decide)
 rw [if_pos c27] at H
 have c27b0 : (t561 == a0_10) = true := beq_iff_eq.mpr c27
 have c27b1 : (t561 != a0_10) = false := bne_eq_false_iff_eq.mpr c27
 clear c27
 by_cases c28 : t554 = a0_1
 rotate_left
 ·rw [if_neg c28] at H
  have c28b0 : (t554 == a0_1) = false := beq_eq_false_iff_ne.mpr c28
  have c28b1 : (t554 != a0_1) = true := bne_iff_ne.mpr c28
  exact absurd ((Option.some.inj H).trans hr_) (by decide)
 rw [if_pos c28] at H
 have c28b0 : (t554 == a0_1) = true := beq_iff_eq.mpr c28
 have c28b1 : (t554 != a0_1) = false := bne_eq_false_iff_eq.mpr c28
 clear c28
 by_cases c29 : t555 = a0_2
 rotate_left
 ·rw [if_neg c29] at H
  have c29b0 : (t555 == a0_2) = false := beq_eq_false_iff_ne.mpr c29
  have c29b1 : (t555 != a0_2) = true := bne_iff_ne.mpr c29
  exact absurd ((Option.some.inj H).trans hr_) (by decide)
 rw [if_pos c29] at H
 have c29b0 : (t555 == a0_2) = true := beq_iff_eq.mpr c29
 have c29b1 : (t555 != a0_2) = false := bne_eq_false_iff_eq.mpr c29
 clear c29
 by_cases c30 : t556 = (wrap64 (a0_3))
 rotate_left
 ·rw [if_neg c30] at H
  have c30b0 : (t556 == (wrap64 (a0_3))) = false := beq_eq_false_iff_ne.mpr c30
  have c30b1 : (t556 != (wrap64 (a0_3))) = true := bne_iff_ne.mpr c30
  exact absurd ((Option.some.inj H).trans hr_) (by decide)
 rw [if_pos c30] at H
 have c30b0 : (t556 == (wrap64 (a0_3))) = true := beq_iff_eq.mpr c30
 have c30b1 : (t556 != (wrap64 (a0_3))) = false := bne_eq_false_iff_eq.mpr c30
 clear c30
 by_cases c31 : t557 = (wrap64 (a0_4))
 rotate_left
 ·rw [if_neg c31] at H
  have c31b0 : (t557 == (wrap64 (a0_4))) = false := beq_eq_false_iff_ne.mpr c31
  have c31b1 : (t557 != (wrap64 (a0_4))) = true := bne_iff_ne.mpr c31
  exact absurd ((Option.some.inj H).trans hr_) (by decide)
 rw [if_pos c31] at H
 have c31b0 : (t557 == (wrap64 (a0_4))) = true := beq_iff_eq.mpr c31
 have c31b1 : (t557 != (wrap64 (a0_4))) = false := bne_eq_false_iff_eq.mpr c31
 clear c31
 by_cases c32 : 28 ≤ 38
 rotate_left
 ·rw [if_neg c32] at H
  exact absurd H (by simp)
 rw [if_pos c32] at H
 have c32b0 := eq_true c32
 have c32b1 : decide (28 ≤ 38) = true := decide_eq_true c32
 clear c32
 by_cases c33 : 38 ≤ (t548.size : Int)
 rotate_left
 ·rw [if_neg c33] at H
  exact absurd H (by simp)
 rw [if_pos c33] at H
 have c33b0 := eq_true c33
 have c33b1 : decide (38 ≤ (t548.size : Int)) = true := decide_eq_true c33
 clear c33
 have c34b0 := eq_true (of_decide_eq_true (by first | (with_reducible assumption) | assumption) : 28 ≤ 38)
 by_cases c35 : 38 ≤ (t529.size : Int)
 rotate_left
 ·rw [if_neg c35] at H
  exact absurd H (by simp)
 rw [if_pos c35] at H
 have c35b0 := eq_true c35
 have c35b1 : decide (38 ≤ (t529.size : Int)) = true := decide_eq_true c35
 clear c35
 by_cases c36 : (t548.extract 28 38).toList = (t529.extract 28 38).toList
 rotate_left
 ·rw [if_neg c36] at H
  have c36b0 : ((t548.extract 28 38).toList == (t529.extract 28 38).toList) = false := beq_eq_false_iff_ne.mpr c36
  have c36b1 : ((t548.extract 28 38).toList != (t529.extract 28 38).toList) = true := bne_iff_ne.mpr c36
  exact absurd ((Option.some.inj H).trans hr_) (by decide)
 rw [if_pos c36] at H
 have c36b0 : ((t548.extract 28 38).toList == (t529.extract 28 38).toList) = true := beq_iff_eq.mpr c36
 have c36b1 : ((t548.extract 28 38).toList != (t529.extract 28 38).toList) = false := bne_eq_false_iff_eq.mpr c36
 clear c36
 by_cases c37 : 40 ≤ 48
 ·rw [if_pos c37] at H
  have c37b0 := eq_true c37
  have c37b1 : decide (40 ≤ 48) = true := decide_eq_true c37
  clear c37
  by_cases c38 : 48 ≤ (t548.size : Int)
  ·rw [if_pos c38] at H
   have c38b0 := eq_true c38
   have c38b1 : decide (48 ≤ (t548.size : Int)) = true := decide_eq_true c38
   clear c38
   have c39b0 := eq_true (of_decide_eq_true (by first | (with_reducible assumption) | assumption) : 40 ≤ 48)
   by_cases c40 : 48 ≤ (t529.size : Int)
   ·rw [if_pos c40] at H
    have c40b0 := eq_true c40
    have c40b1 : decide (48 ≤ (t529.size : Int)) = true := decide_eq_true c40
    clear c40
    obtain rfl := Option.some.inj H
    go_enter Try.func6, Try.ntmps6
    go_wp2_with (first | ((with_reducible refine gate_dst (N := 5) rfl ?_); (try (refine gate_guard (by rfl) ?_; dsimp only)); refine box_event ?hg (N := 5) ?hd (cs := (r11 a0_0 a0_1 a0_2 a0_3 a0_4 a0_5 a0_6 a0_7 a0_8 a0_9 a0_10)) (t := 25) ?hr ?_; (case hd => rfl); (case hg => rfl); (case hr => first | (go_simp; done) | (go_simp; rfl)); intro gb527 hg w41 hbox hb; have n0_ := Aside0.mk (below_step (BW HB) hb); have n1_ := Aside0.mk (hbox); have n2_ := Aside0.mk ((by rw [hg]; exact (below_size (BW HB)) : w.heap.size ≤ gb527)); have n3_ := Aside0.mk ((by rw [hg]; exact (below_size (BW HB)) : w.heap.size ≤ gb527)); clear HB; have HB := n0_; have BK527 := n1_; have GW527 := n2_; have GE527 := n3_; clear n0_ n1_ n2_ n3_; clear hb hbox hg) | (go_at_call 9; (with_reducible refine (weighbridgelaw10_examples.calls  true _ A6.out).mono ?_); rintro e w42 ⟨rfl, hb⟩; (try clear A6); have n0_ := Aside0.mk (blk_below (g := gb527) (o := .cells (r11 a0_0 a0_1 a0_2 a0_3 a0_4 a0_5 a0_6 a0_7 a0_8 a0_9 a0_10) 25 (0, 0)) (BD BK527) hb); have n1_ := Aside0.mk (below_step (BW HB) hb); clear BK527; clear HB; have BK527 := n0_; have HB := n1_; clear n0_ n1_; (try clear hb); obtain ⟨hcz43_0, hcz43_1, hcz43_2, hcz43_3, hcz43_4, hcz43_5, hcz43_6, hcz43_7, hcz43_8, hcz43_9, hcz43_10, hfz43_0, hfz43_1, hfz43_2, hfz43_3, hfz43_4, hfz43_5, hfz43_6, hfz43_7, hfz43_8, hfz43_9, hfz43_10⟩ := blk11 BK527.out) | (go_at_call 11; (with_reducible refine (weighbridgelaw10_Make_frame.calls ((2 + (Int.tmod a0_0 2)) % 256) a0_1 a0_2 a0_3 a0_4 a0_5 ji8 a0_7 a0_8 a0_9 a0_10 t529 _ A9.out).mono ?_); rintro e w44 ⟨rfl, hb⟩; (try clear A9); have n0_ := Aside0.mk (blk_below (g := gb527) (o := .cells (r11 ((2 + (Int.tmod a0_0 2)) % 256) a0_1 a0_2 a0_3 a0_4 a0_5 ji8 a0_7 a0_8 a0_9 a0_10) 25 (0, 0)) (BE BK527) hb); have n1_ := Aside0.mk (below_step (BW HB) hb); clear BK527; clear HB; have BK527 := n0_; have HB := n1_; clear n0_ n1_; (try clear hb); obtain ⟨hcz45_0, hcz45_1, hcz45_2, hcz45_3, hcz45_4, hcz45_5, hcz45_6, hcz45_7, hcz45_8, hcz45_9, hcz45_10, hfz45_0, hfz45_1, hfz45_2, hfz45_3, hfz45_4, hfz45_5, hfz45_6, hfz45_7, hfz45_8, hfz45_9, hfz45_10⟩ := blk11 BK527.out) | (go_at_call 16; (with_reducible refine (patch_About.calls t529 a1 a2 a0_10 a0_9 (wrap64 (a3)) (wrap64 (a4)) t530 t531 _ A10.out).mono ?_); rintro e w46 ⟨rfl, hb⟩; (try clear A10); have n0_ := Aside0.mk (blk_below (g := gb527) (o := .cells (r11 ((2 + (Int.tmod a0_0 2)) % 256) a0_1 a0_2 a0_3 a0_4 a0_5 ji8 a0_7 a0_8 a0_9 a0_10) 25 (0, 0)) (BD BK527) hb); have n1_ := Aside0.mk (below_step (BW HB) hb); clear BK527; clear HB; have BK527 := n0_; have HB := n1_; clear n0_ n1_; (try clear hb)) | (go_at_call 15; (with_reducible refine (packet_Classify.calls t530 t532 t533 t534 t535 t536 t537 t538 t539 t540 t541 t542 t543 t544 t545 t546 _ A11.out).mono ?_); rintro e w47 ⟨rfl, hb⟩; (try clear A11); have n0_ := Aside0.mk (blk_below (g := gb527) (o := .cells (r11 ((2 + (Int.tmod a0_0 2)) % 256) a0_1 a0_2 a0_3 a0_4 a0_5 ji8 a0_7 a0_8 a0_9 a0_10) 25 (0, 0)) (BD BK527) hb); have n1_ := Aside0.mk (below_step (BW HB) hb); clear BK527; clear HB; have BK527 := n0_; have HB := n1_; clear n0_ n1_; (try clear hb)) | ((with_reducible refine gate_dst (N := 15) rfl ?_); (try (refine gate_guard (by rfl) ?_; dsimp only)); refine box_event ?hg (N := 15) ?hd (cs := (r14 0 0 0 0 0 0 0 0 0 0 0 0 0 0)) (t := 42) ?hr ?_; (case hd => rfl); (case hg => rfl); (case hr => first | (go_simp; done) | (go_simp; rfl)); intro gb547 hg w48 hbox hb; have n0_ := Aside0.mk (blk_below (g := gb527) (o := .cells (r11 ((2 + (Int.tmod a0_0 2)) % 256) a0_1 a0_2 a0_3 a0_4 a0_5 ji8 a0_7 a0_8 a0_9 a0_10) 25 (0, 0)) (BD BK527) hb); have n1_ := Aside0.mk (below_step (BW HB) hb); have n2_ := Aside0.mk (hbox); have n3_ := Aside0.mk ((by rw [hg]; exact (below_size (BW HB)) : w.heap.size ≤ gb547)); have n4_ := Aside0.mk ((by rw [hg]; exact (below_size (BW HB)) : w.heap.size ≤ gb547)); have n5_ := Aside0.mk ((by rw [hg]; exact Nat.ne_of_lt (blk_lt (g := gb527) (o := .cells (r11 ((2 + (Int.tmod a0_0 2)) % 256) a0_1 a0_2 a0_3 a0_4 a0_5 ji8 a0_7 a0_8 a0_9 a0_10) 25 (0, 0)) (BD BK527)) : gb527 ≠ gb547)); have n6_ := Aside0.mk ((by rw [hg]; exact Nat.ne_of_gt (blk_lt (g := gb527) (o := .cells (r11 ((2 + (Int.tmod a0_0 2)) % 256) a0_1 a0_2 a0_3 a0_4 a0_5 ji8 a0_7 a0_8 a0_9 a0_10) 25 (0, 0)) (BD BK527)) : gb547 ≠ gb527)); clear BK527; clear HB; have BK527 := n0_; have HB := n1_; have BK547 := n2_; have GW547 := n3_; have GE547 := n4_; have NB527_547 := n5_; have NB547_527 := n6_; clear n0_ n1_ n2_ n3_ n4_ n5_ n6_; clear hb hbox hg; have hnb49 := NB547_527.out; have hnc49 := NB527_547.out; obtain ⟨hcz50_0, hcz50_1, hcz50_2, hcz50_3, hcz50_4, hcz50_5, hcz50_6, hcz50_7, hcz50_8, hcz50_9, hcz50_10, hcz50_11, hcz50_12, hcz50_13, hfz50_0, hfz50_1, hfz50_2, hfz50_3, hfz50_4, hfz50_5, hfz50_6, hfz50_7, hfz50_8, hfz50_9, hfz50_10, hfz50_11, hfz50_12, hfz50_13⟩ := blk14 BK547.out; obtain ⟨hcz51_0, hcz51_1, hcz51_2, hcz51_3, hcz51_4, hcz51_5, hcz51_6, hcz51_7, hcz51_8, hcz51_9, hcz51_10, hfz51_0, hfz51_1, hfz51_2, hfz51_3, hfz51_4, hfz51_5, hfz51_6, hfz51_7, hfz51_8, hfz51_9, hfz51_10⟩ := blk11 BK527.out) | (go_at_call 16; (with_reducible refine (patch_About.calls t530 a0_9 a0_10 a0_1 a0_2 (wrap64 (a0_3)) (wrap64 (a0_4)) t548 t549 _ A12.out).mono ?_); rintro e w52 ⟨rfl, hb⟩; (try clear A12); have n0_ := Aside0.mk (blk_below (g := gb527) (o := .cells (r11 ((2 + (Int.tmod a0_0 2)) % 256) a0_1 a0_2 a0_3 a0_4 a0_5 ji8 a0_7 a0_8 a0_9 a0_10) 25 (0, 0)) (BE BK527) hb); have n1_ := Aside0.mk (blk_below (g := gb547) (o := .cells (r14 t532 t533 t534 t535 t536 t537 t538 t539 t540 t541 t542 t543 t544 t545) 42 (0, 0)) (BE BK547) hb); have n2_ := Aside0.mk (below_step (BW HB) hb); clear BK527; clear BK547; clear HB; have BK527 := n0_; have BK547 := n1_; have HB := n2_; clear n0_ n1_ n2_; (try clear hb)) | (go_at_call 15; (with_reducible refine (packet_Classify.calls t548 t550 t551 t552 t553 t554 t555 t556 t557 t558 t559 t560 t561 t562 t563 t564 _ A13.out).mono ?_); rintro e w53 ⟨rfl, hb⟩; (try clear A13); have n0_ := Aside0.mk (blk_below (g := gb527) (o := .cells (r11 ((2 + (Int.tmod a0_0 2)) % 256) a0_1 a0_2 a0_3 a0_4 a0_5 ji8 a0_7 a0_8 a0_9 a0_10) 25 (0, 0)) (BD BK527) hb); have n1_ := Aside0.mk (blk_below (g := gb547) (o := .cells (r14 t532 t533 t534 t535 t536 t537 t538 t539 t540 t541 t542 t543 t544 t545) 42 (0, 0)) (BD BK547) hb); have n2_ := Aside0.mk (below_step (BW HB) hb); clear BK527; clear BK547; clear HB; have BK527 := n0_; have BK547 := n1_; have HB := n2_; clear n0_ n1_ n2_; (try clear hb)) | ((with_reducible refine gate_dst (N := 19) rfl ?_); (try (refine gate_guard (by rfl) ?_; dsimp only)); refine box_event ?hg (N := 19) ?hd (cs := (r14 0 0 0 0 0 0 0 0 0 0 0 0 0 0)) (t := 42) ?hr ?_; (case hd => rfl); (case hg => rfl); (case hr => first | (go_simp; done) | (go_simp; rfl)); intro gb565 hg w54 hbox hb; have n0_ := Aside0.mk (blk_below (g := gb527) (o := .cells (r11 ((2 + (Int.tmod a0_0 2)) % 256) a0_1 a0_2 a0_3 a0_4 a0_5 ji8 a0_7 a0_8 a0_9 a0_10) 25 (0, 0)) (BD BK527) hb); have n1_ := Aside0.mk (blk_below (g := gb547) (o := .cells (r14 t532 t533 t534 t535 t536 t537 t538 t539 t540 t541 t542 t543 t544 t545) 42 (0, 0)) (BD BK547) hb); have n2_ := Aside0.mk (below_step (BW HB) hb); have n3_ := Aside0.mk (hbox); have n4_ := Aside0.mk ((by rw [hg]; exact (below_size (BW HB)) : w.heap.size ≤ gb565)); have n5_ := Aside0.mk ((by rw [hg]; exact (below_size (BW HB)) : w.heap.size ≤ gb565)); have n6_ := Aside0.mk ((by rw [hg]; exact Nat.ne_of_lt (blk_lt (g := gb527) (o := .cells (r11 ((2 + (Int.tmod a0_0 2)) % 256) a0_1 a0_2 a0_3 a0_4 a0_5 ji8 a0_7 a0_8 a0_9 a0_10) 25 (0, 0)) (BD BK527)) : gb527 ≠ gb565)); have n7_ := Aside0.mk ((by rw [hg]; exact Nat.ne_of_gt (blk_lt (g := gb527) (o := .cells (r11 ((2 + (Int.tmod a0_0 2)) % 256) a0_1 a0_2 a0_3 a0_4 a0_5 ji8 a0_7 a0_8 a0_9 a0_10) 25 (0, 0)) (BD BK527)) : gb565 ≠ gb527)); have n8_ := Aside0.mk ((by rw [hg]; exact Nat.ne_of_lt (blk_lt (g := gb547) (o := .cells (r14 t532 t533 t534 t535 t536 t537 t538 t539 t540 t541 t542 t543 t544 t545) 42 (0, 0)) (BD BK547)) : gb547 ≠ gb565)); have n9_ := Aside0.mk ((by rw [hg]; exact Nat.ne_of_gt (blk_lt (g := gb547) (o := .cells (r14 t532 t533 t534 t535 t536 t537 t538 t539 t540 t541 t542 t543 t544 t545) 42 (0, 0)) (BD BK547)) : gb565 ≠ gb547)); clear BK527; clear BK547; clear HB; have BK527 := n0_; have BK547 := n1_; have HB := n2_; have BK565 := n3_; have GW565 := n4_; have GE565 := n5_; have NB527_565 := n6_; have NB565_527 := n7_; have NB547_565 := n8_; have NB565_547 := n9_; clear n0_ n1_ n2_ n3_ n4_ n5_ n6_ n7_ n8_ n9_; clear hb hbox hg; have hnb55 := NB565_527.out; have hnc55 := NB527_565.out; have hnb56 := NB565_547.out; have hnc56 := NB547_565.out; obtain ⟨hcz57_0, hcz57_1, hcz57_2, hcz57_3, hcz57_4, hcz57_5, hcz57_6, hcz57_7, hcz57_8, hcz57_9, hcz57_10, hcz57_11, hcz57_12, hcz57_13, hfz57_0, hfz57_1, hfz57_2, hfz57_3, hfz57_4, hfz57_5, hfz57_6, hfz57_7, hfz57_8, hfz57_9, hfz57_10, hfz57_11, hfz57_12, hfz57_13⟩ := blk14 BK565.out; obtain ⟨hcz58_0, hcz58_1, hcz58_2, hcz58_3, hcz58_4, hcz58_5, hcz58_6, hcz58_7, hcz58_8, hcz58_9, hcz58_10, hcz58_11, hcz58_12, hcz58_13, hfz58_0, hfz58_1, hfz58_2, hfz58_3, hfz58_4, hfz58_5, hfz58_6, hfz58_7, hfz58_8, hfz58_9, hfz58_10, hfz58_11, hfz58_12, hfz58_13⟩ := blk14 BK547.out; obtain ⟨hcz59_0, hcz59_1, hcz59_2, hcz59_3, hcz59_4, hcz59_5, hcz59_6, hcz59_7, hcz59_8, hcz59_9, hcz59_10, hfz59_0, hfz59_1, hfz59_2, hfz59_3, hfz59_4, hfz59_5, hfz59_6, hfz59_7, hfz59_8, hfz59_9, hfz59_10⟩ := blk11 BK527.out))
    go_upto_region 13 with (fail)
    dsimp only [List.append_eq, List.cons_append, List.nil_append]
    refine Go.wp_region_quiet_lit (by kernel_rfl) (lexB_of (by kernel_rfl) (by kernel_rfl)) ?_
    repeat (go_big_quiet_step (fail))
    refine wpQuiet_nil ?_
    intro _ hw_
    obtain ⟨nq, hw2_⟩ := hw_
    subst hw2_
    go_wp2_with (fail)
    go_ret
    exact ⟨by first | rfl | (simp [errW_none, errW_some] <;> rfl) | (simp only [← hji8]; first | rfl | (simp [errW_none, errW_some] <;> rfl)) | (simp [*, errW_none, errW_some] <;> rfl), BW HB⟩
   rw [if_neg c40] at H
   exact absurd H (by simp)
  rw [if_neg c38] at H
  exact absurd H (by simp)
 rw [if_neg c37] at H
 exact absurd H (by simp)

/-- THE ONE PURE STATEMENT of weighbridgelaw10_PatchInside: yours. -/
def weighbridgelaw10_PatchInside.Pure : Prop := ∀ (a0_0 : Int) (a0_1 : Int) (a0_2 : Int) (a0_3 : Int) (a0_4 : Int) (a0_5 : Int) (a0_6 : Int) (a0_7 : ByteArray) (a0_8 : Bool) (a0_9 : Int) (a0_10 : Int) (a1 : Int) (a2 : Int) (a3 : Int) (a4 : Int), (Lit.int .u8 a0_0).wf = true → (Lit.int .u32 a0_1).wf = true → (Lit.int .u32 a0_2).wf = true → (Lit.int .u16 a0_3).wf = true → (Lit.int .u16 a0_4).wf = true → (Lit.int .u8 a0_5).wf = true → (Lit.int .u8 a0_6).wf = true → a0_7.size ≤ 140737488351232 → (Lit.int .u32 a0_9).wf = true → (Lit.int .u32 a0_10).wf = true → (Lit.int .u32 a1).wf = true → (Lit.int .u32 a2).wf = true → (Lit.int .u16 a3).wf = true → (Lit.int .u16 a4).wf = true → weighbridgelaw10_PatchInside.f a0_0 a0_1 a0_2 a0_3 a0_4 a0_5 a0_6 a0_7 a0_8 a0_9 a0_10 a1 a2 a3 a4 = some true
theorem weighbridgelaw10_PatchInside.walk (P : weighbridgelaw10_PatchInside.Pure) (a0_0 : Int) (a0_1 : Int) (a0_2 : Int) (a0_3 : Int) (a0_4 : Int) (a0_5 : Int) (a0_6 : Int) (a0_7 : ByteArray) (a0_8 : Bool) (a0_9 : Int) (a0_10 : Int) (a1 : Int) (a2 : Int) (a3 : Int) (a4 : Int) (w : World) (w0_0 : (Lit.int .u8 a0_0).wf = true) (w0_1 : (Lit.int .u32 a0_1).wf = true) (w0_2 : (Lit.int .u32 a0_2).wf = true) (w0_3 : (Lit.int .u16 a0_3).wf = true) (w0_4 : (Lit.int .u16 a0_4).wf = true) (w0_5 : (Lit.int .u8 a0_5).wf = true) (w0_6 : (Lit.int .u8 a0_6).wf = true) (w0_7 : a0_7.size ≤ 140737488351232) (w0_9 : (Lit.int .u32 a0_9).wf = true) (w0_10 : (Lit.int .u32 a0_10).wf = true) (w1 : (Lit.int .u32 a1).wf = true) (w2 : (Lit.int .u32 a2).wf = true) (w3 : (Lit.int .u16 a3).wf = true) (w4 : (Lit.int .u16 a4).wf = true) :
  Calls Try.prog 6 #[.agg #[.int .u8 a0_0, .int .u32 a0_1, .int .u32 a0_2, .int .u16 a0_3, .int .u16 a0_4, .int .u8 a0_5, .int .u8 a0_6, .string a0_7, .bool a0_8, .int .u32 a0_9, .int .u32 a0_10], .int .u32 a1, .int .u32 a2, .int .u16 a3, .int .u16 a4] w fun e w' => e = .returned (.bool true) ∧ Below w.heap.size w w' := by
 have h := P a0_0 a0_1 a0_2 a0_3 a0_4 a0_5 a0_6 a0_7 a0_8 a0_9 a0_10 a1 a2 a3 a4 w0_0 w0_1 w0_2 w0_3 w0_4 w0_5 w0_6 w0_7 w0_9 w0_10 w1 w2 w3 w4
 refine (weighbridgelaw10_PatchInside.calls a0_0 a0_1 a0_2 a0_3 a0_4 a0_5 a0_6 a0_7 a0_8 a0_9 a0_10 a1 a2 a3 a4 true w h rfl).mono ?_
 rintro e w' ⟨rfl, hd⟩
 exact ⟨rfl, hd⟩
end Go.Proofs.Ytfnjohklmpiboaa.Pr
