-- trimmed by trims.py
-- Written by a program of the session (wip/tools) out of the translation, over the kit's print; with pieces of the session's own.
import Derived.Test.YtfnjohklmpiboaaPr0
import Derived.Test.YtfnjohklmpiboaaPr1
import Derived.Test.YtfnjohklmpiboaaPr9
import Derived.Test.YtfnjohklmpiboaaPr17
import Derived.Test.YtfnjohklmpiboaaPr19
namespace Go.Proofs.Ytfnjohklmpiboaa.Pr
open Go.RowKit Go.Proofs.YtfnjohklmpiboaaW.PrintWords Go.Proofs.YtfnjohklmpiboaaW.PrintLast Go.Proofs.YtfnjohklmpiboaaW.PrintMore
attribute [local go_sem] max2_int min2_int max_two min_two max_three min_three max_four min_four   -- for this text's walks alone
set_option linter.unusedVariables false
set_option linter.unusedSimpArgs false
open Go.Proofs.Ytfnjohklmpiboaa.Sp
attribute [local go_sem high] eqA40
/-! ### weighbridgelaw10_PatchBack: function 4 -/
def weighbridgelaw10_PatchBack.f (a0_0 : Int) (a0_1 : Int) (a0_2 : Int) (a0_3 : Int) (a0_4 : Int) (a0_5 : Int) (a0_6 : Int) (a0_7 : ByteArray) (a0_8 : Bool) (a0_9 : Int) (a0_10 : Int) (a1 : Int) (a2 : Int) (a3 : Int) (a4 : Int) : Option (Bool) := (weighbridgelaw10_examples.f).bind fun t492 => (if t492 = true then ((weighbridgelaw10_Make_frame.f (Int.tmod a0_0 2) a0_1 a0_2 a0_3 a0_4 a0_5 (mx a0_6 3) a0_7 a0_8 a0_9 a0_10).bind fun t493 => ((patch_Plain.f t493 a1 a2 (wrap64 (a3)) (wrap64 (a4))).bind fun bt494 => ((packet_Classify.f bt494.1).bind fun bt496 => ((patch_Plain.f bt494.1 a0_1 a0_2 (wrap64 (a0_3)) (wrap64 (a0_4))).bind fun bt512 => (if bt494.2 = 0 then (if bt496.2.2.2.2.2.2.2.2.2.2.2.2.2.2 = 0 then (if bt512.2 = 0 then (if (bt494.1.size : Int) = (t493.size : Int) then (if (bt496.2.2.2.2.1 == a1 && (bt496.2.2.2.2.2.1 == a2 && (bt496.2.2.2.2.2.2.1 == (wrap64 (a3)) && (bt496.2.2.2.2.2.2.2.1 == (wrap64 (a4)))))) = true then (if bt496.2.2.2.2.2.2.2.2.2.1 = (wrap64 ((wrap64 (mx a0_6 3)) - 1)) then ((weighbridgelaw10_Make_frame.f (Int.tmod a0_0 2) a0_1 a0_2 a0_3 a0_4 a0_5 (((mx a0_6 3) - 2) % 256) a0_7 a0_8 a0_9 a0_10).bind fun t515 => (some (bt512.1.toList == t515.toList))) else (some false)) else (some false)) else (some false)) else (some false)) else (some false)) else (some false)))))) else (some false))
set_option maxHeartbeats 8000000 in
set_option maxRecDepth 100000 in
theorem weighbridgelaw10_PatchBack.calls (a0_0 : Int) (a0_1 : Int) (a0_2 : Int) (a0_3 : Int) (a0_4 : Int) (a0_5 : Int) (a0_6 : Int) (a0_7 : ByteArray) (a0_8 : Bool) (a0_9 : Int) (a0_10 : Int) (a1 : Int) (a2 : Int) (a3 : Int) (a4 : Int) (r : Bool) (w : World) (h : weighbridgelaw10_PatchBack.f a0_0 a0_1 a0_2 a0_3 a0_4 a0_5 a0_6 a0_7 a0_8 a0_9 a0_10 a1 a2 a3 a4 = some r) (hr_ : r = true) :
  Calls Try.prog 4 #[.agg #[.int .u8 a0_0, .int .u32 a0_1, .int .u32 a0_2, .int .u16 a0_3, .int .u16 a0_4, .int .u8 a0_5, .int .u8 a0_6, .string a0_7, .bool a0_8, .int .u32 a0_9, .int .u32 a0_10], .int .u32 a1, .int .u32 a2, .int .u16 a3, .int .u16 a4] w fun e w' => e = .returned (.bool r) ∧ Below w.heap.size w w' := by
 have hu25 := Try.underlying25
 have hu27 := Try.underlying27
 have hu42 := Try.underlying42
 have hu40 := Try.underlying40
 have HB := Aside0.mk (Below.refl w.heap.size w)
 have H := h
 unfold weighbridgelaw10_PatchBack.f at H
 clear h
 replace H := Option.bind_eq_some_iff.mp H
 obtain ⟨t492, A60, H⟩ := H
 (try set_option simprocs false in dsimp only at H)
 have A6 := Aside0.mk A60
 clear A60
 by_cases c7 : t492 = true
 rotate_left
 ·replace c7 := Bool.eq_false_iff.mpr c7
  subst c7
  have H1 : (some false) = some r := by rw [if_neg (show ¬ (false = true) by decide)] at H; exact H
  clear H
  have H := H1
  clear H1
  exact absurd ((Option.some.inj H).trans hr_) (by decide)
 subst c7
 first | rw [if_pos rfl] at H | rw [if_pos trivial] at H
 obtain ⟨ji8, hji8⟩ : ∃ j_ : Int, (mx a0_6 3) = j_ := ⟨_, rfl⟩
 replace H : ((weighbridgelaw10_Make_frame.f (Int.tmod a0_0 2) a0_1 a0_2 a0_3 a0_4 a0_5 (ji8) a0_7 a0_8 a0_9 a0_10).bind fun t493 => ((patch_Plain.f t493 a1 a2 (wrap64 (a3)) (wrap64 (a4))).bind fun bt494 => ((packet_Classify.f bt494.1).bind fun bt496 => ((patch_Plain.f bt494.1 a0_1 a0_2 (wrap64 (a0_3)) (wrap64 (a0_4))).bind fun bt512 => (if bt494.2 = 0 then (if bt496.2.2.2.2.2.2.2.2.2.2.2.2.2.2 = 0 then (if bt512.2 = 0 then (if (bt494.1.size : Int) = (t493.size : Int) then (if (bt496.2.2.2.2.1 == a1 && (bt496.2.2.2.2.2.1 == a2 && (bt496.2.2.2.2.2.2.1 == (wrap64 (a3)) && (bt496.2.2.2.2.2.2.2.1 == (wrap64 (a4)))))) = true then (if bt496.2.2.2.2.2.2.2.2.2.1 = (wrap64 ((wrap64 (ji8)) - 1)) then ((weighbridgelaw10_Make_frame.f (Int.tmod a0_0 2) a0_1 a0_2 a0_3 a0_4 a0_5 (((ji8) - 2) % 256) a0_7 a0_8 a0_9 a0_10).bind fun t515 => (some (bt512.1.toList == t515.toList))) else (some false)) else (some false)) else (some false)) else (some false)) else (some false)) else (some false)))))) = some r := by first | (rw [hji8] at H; exact H) | (simp only [hji8] at H ⊢; exact H)
 (try rw [hji8] at A6)
 (try (have hji8l : 3 ≤ ji8 := by (rw [← hji8]; unfold mx; (repeat' split) <;> omega)))
 (try (have hji8m : 0 ≤ ji8 := by omega))
 have hji8_ : (if a0_6 < 3 then 3 else a0_6) = ji8 := hji8
 replace H := Option.bind_eq_some_iff.mp H
 obtain ⟨t493, A90, H⟩ := H
 (try set_option simprocs false in dsimp only at H)
 have A9 := Aside0.mk A90
 clear A90
 replace H := Option.bind_eq_some_iff.mp H
 obtain ⟨⟨t494, t495⟩, A100, H⟩ := H
 (try set_option simprocs false in dsimp only at H)
 have A10 := Aside0.mk A100
 clear A100
 replace H := Option.bind_eq_some_iff.mp H
 obtain ⟨⟨t496, t497, t498, t499, t500, t501, t502, t503, t504, t505, t506, t507, t508, t509, t510⟩, A110, H⟩ := H
 (try set_option simprocs false in dsimp only at H)
 have A11 := Aside0.mk A110
 clear A110
 replace H := Option.bind_eq_some_iff.mp H
 obtain ⟨⟨t512, t513⟩, A120, H⟩ := H
 (try set_option simprocs false in dsimp only at H)
 have A12 := Aside0.mk A120
 clear A120
 by_cases c13 : t495 = 0
 rotate_left
 ·rw [if_neg c13] at H
  have c13b0 : (t495 == 0) = false := beq_eq_false_iff_ne.mpr c13
  have c13b1 : (t495 != 0) = true := bne_iff_ne.mpr c13
  exact absurd ((Option.some.inj H).trans hr_) (by decide)
 rw [if_pos c13] at H
 have c13b0 : (t495 == 0) = true := beq_iff_eq.mpr c13
 have c13b1 : (t495 != 0) = false := bne_eq_false_iff_eq.mpr c13
 clear c13
 by_cases c14 : t510 = 0
 rotate_left
 ·rw [if_neg c14] at H
  have c14b0 : (t510 == 0) = false := beq_eq_false_iff_ne.mpr c14
  have c14b1 : (t510 != 0) = true := bne_iff_ne.mpr c14
  exact absurd ((Option.some.inj H).trans hr_) (by decide)
 rw [if_pos c14] at H
 have c14b0 : (t510 == 0) = true := beq_iff_eq.mpr c14
 have c14b1 : (t510 != 0) = false := bne_eq_false_iff_eq.mpr c14
 clear c14
 by_cases c15 : t513 = 0
 rotate_left
 ·rw [if_neg c15] at H
  have c15b0 : (t513 == 0) = false := beq_eq_false_iff_ne.mpr c15
  have c15b1 : (t513 != 0) = true := bne_iff_ne.mpr c15
  exact absurd ((Option.some.inj H).trans hr_) (by decide)
 rw [if_pos c15] at H
 have c15b0 : (t513 == 0) = true := beq_iff_eq.mpr c15
 have c15b1 : (t513 != 0) = false := bne_eq_false_iff_eq.mpr c15
 clear c15
 by_cases c16 : (t494.size : Int) = (t493.size : Int)
 rotate_left
 ·rw [if_neg c16] at H
  have c16b0 : ((t494.size : Int) == (t493.size : Int)) = false := beq_eq_false_iff_ne.mpr c16
  have c16b1 : ((t494.size : Int) != (t493.size : Int)) = true := bne_iff_ne.mpr c16
  have c16b2 : (t494.size == t493.size) = false := by first | simpa using c16 | (simp at c16 ⊢; omega)
  exact absurd ((Option.some.inj H).trans hr_) (by decide)
 rw [if_pos c16] at H
 have c16b0 : ((t494.size : Int) == (t493.size : Int)) = true := beq_iff_eq.mpr c16
 have c16b1 : ((t494.size : Int) != (t493.size : Int)) = false := bne_eq_false_iff_eq.mpr c16
 have c16b2 : (t494.size == t493.size) = true := by first | simpa using c16 | (simp at c16 ⊢; omega)
 clear c16
 by_cases c17 : (t500 == a1 && (t501 == a2 && (t502 == (wrap64 (a3)) && (t503 == (wrap64 (a4)))))) = true
 rotate_left
 ·rw [if_neg c17] at H
  have c17b0 : (t500 == a1 && (t501 == a2 && (t502 == (wrap64 (a3)) && (t503 == (wrap64 (a4)))))) = false := by simpa using c17
  (try (have c17b1 : decide (t500 = a1 && (t501 == a2 && (t502 == (wrap64 (a3)) && (t503 == (wrap64 (a4)))))) = false := by simpa using c17))
  (try (have c17b2 : (t500 == a1 && (t501 == a2 && (t502 == (wrap64 (a3)) && (t503 == (wrap64 (a4)))))) = false := by simpa using c17))
  (try (have c17b3 : ¬ (t500 = a1 && (t501 == a2 && (t502 == (wrap64 (a3)) && (t503 == (wrap64 (a4)))))) := by simpa using c17))
  clear c17
  exact absurd ((Option.some.inj H).trans hr_) (by decide)
 rw [if_pos c17] at H
 have c17b0 : (t500 == a1 && (t501 == a2 && (t502 == (wrap64 (a3)) && (t503 == (wrap64 (a4)))))) = true := c17
 (try (have c17b1 : decide (t500 = a1 && (t501 == a2 && (t502 == (wrap64 (a3)) && (t503 == (wrap64 (a4)))))) = true := by simpa using c17))
 (try (have c17b2 : (t500 == a1 && (t501 == a2 && (t502 == (wrap64 (a3)) && (t503 == (wrap64 (a4)))))) = true := by simpa using c17))
 clear c17
 by_cases c18 : t505 = (wrap64 ((wrap64 (ji8)) - 1))
 rotate_left
 ·rw [if_neg c18] at H
  have c18b0 : (t505 == (wrap64 ((wrap64 (ji8)) - 1))) = false := beq_eq_false_iff_ne.mpr c18
  have c18b1 : (t505 != (wrap64 ((wrap64 (ji8)) - 1))) = true := bne_iff_ne.mpr c18
  exact absurd ((Option.some.inj H).trans hr_) (by decide)
 rw [if_pos c18] at H
 have c18b0 : (t505 == (wrap64 ((wrap64 (ji8)) - 1))) = true := beq_iff_eq.mpr c18
 have c18b1 : (t505 != (wrap64 ((wrap64 (ji8)) - 1))) = false := bne_eq_false_iff_eq.mpr c18
 clear c18
 replace H := Option.bind_eq_some_iff.mp H
 obtain ⟨t515, A190, H⟩ := H
 (try set_option simprocs false in dsimp only at H)
 have A19 := Aside0.mk A190
 clear A190
 obtain rfl := Option.some.inj H
 go_enter Try.func4, Try.ntmps4
 go_upto_region 12 with (first | ((with_reducible refine gate_dst (N := 5) rfl ?_); (try (refine gate_guard (by rfl) ?_; dsimp only)); refine box_event ?hg (N := 5) ?hd (cs := (r11 a0_0 a0_1 a0_2 a0_3 a0_4 a0_5 a0_6 a0_7 a0_8 a0_9 a0_10)) (t := 25) ?hr ?_; (case hd => rfl); (case hg => rfl); (case hr => first | (go_simp; done) | (go_simp; rfl)); intro gb491 hg w20 hbox hb; have n0_ := Aside0.mk (below_step (BW HB) hb); have n1_ := Aside0.mk (hbox); have n2_ := Aside0.mk ((by rw [hg]; exact (below_size (BW HB)) : w.heap.size ≤ gb491)); have n3_ := Aside0.mk ((by rw [hg]; exact (below_size (BW HB)) : w.heap.size ≤ gb491)); clear HB; have HB := n0_; have BK491 := n1_; have GW491 := n2_; have GE491 := n3_; clear n0_ n1_ n2_ n3_; clear hb hbox hg) | ((with_reducible refine gate_callee (f := 9) rfl ?_); refine goesL_ (some 20) rfl rfl Try.func9 (by kernel_rfl) rfl #[] rfl AG ?_; (with_reducible refine (weighbridgelaw10_examples.calls  true _ A6.out).mono ?_); rintro e w21 ⟨rfl, hb⟩; (try clear A6); refine ⟨_, rfl, ?_⟩; have n0_ := Aside0.mk (blk_below (g := gb491) (o := .cells (r11 a0_0 a0_1 a0_2 a0_3 a0_4 a0_5 a0_6 a0_7 a0_8 a0_9 a0_10) 25 (0, 0)) (BD BK491) hb); have n1_ := Aside0.mk (below_step (BW HB) hb); clear BK491; clear HB; have BK491 := n0_; have HB := n1_; clear n0_ n1_; (try clear hb); obtain ⟨hcz22_0, hcz22_1, hcz22_2, hcz22_3, hcz22_4, hcz22_5, hcz22_6, hcz22_7, hcz22_8, hcz22_9, hcz22_10, hfz22_0, hfz22_1, hfz22_2, hfz22_3, hfz22_4, hfz22_5, hfz22_6, hfz22_7, hfz22_8, hfz22_9, hfz22_10⟩ := blk11 BK491.out) | ((with_reducible refine gate_callee (f := 11) rfl ?_); refine goesL_ (some 32) rfl rfl Try.func11 (by kernel_rfl) rfl #[.agg #[.int .u8 (Int.tmod a0_0 2), .int .u32 a0_1, .int .u32 a0_2, .int .u16 a0_3, .int .u16 a0_4, .int .u8 a0_5, .int .u8 ji8, .string a0_7, .bool a0_8, .int .u32 a0_9, .int .u32 a0_10]] rfl (by (try simp only [List.map_toArray, List.map_cons, List.map_nil]); first | done | (simp only [hji8]; rfl) | rfl | (simp only [List.length_drop, List.length_take]; rfl)) ?_; (with_reducible refine (weighbridgelaw10_Make_frame.calls (Int.tmod a0_0 2) a0_1 a0_2 a0_3 a0_4 a0_5 ji8 a0_7 a0_8 a0_9 a0_10 t493 _ A9.out).mono ?_); rintro e w23 ⟨rfl, hb⟩; (try clear A9); refine ⟨_, rfl, ?_⟩; have n0_ := Aside0.mk (blk_below (g := gb491) (o := .cells (r11 (Int.tmod a0_0 2) a0_1 a0_2 a0_3 a0_4 a0_5 ji8 a0_7 a0_8 a0_9 a0_10) 25 (0, 0)) (BE BK491) hb); have n1_ := Aside0.mk (below_step (BW HB) hb); clear BK491; clear HB; have BK491 := n0_; have HB := n1_; clear n0_ n1_; (try clear hb)) | ((with_reducible refine gate_callee (f := 12) rfl ?_); refine goesL_ (some 42) rfl rfl Try.func12 (by kernel_rfl) rfl #[.string t493, .agg #[.int .u32 a1, .int .u32 a2, .int .i64 (wrap64 (a3)), .int .i64 (wrap64 (a4))]] rfl AG ?_; (with_reducible refine (patch_Plain.calls t493 a1 a2 (wrap64 (a3)) (wrap64 (a4)) t494 t495 _ A10.out).mono ?_); rintro e w24 ⟨rfl, hb⟩; (try clear A10); refine ⟨_, rfl, ?_⟩; have n0_ := Aside0.mk (blk_below (g := gb491) (o := .cells (r11 (Int.tmod a0_0 2) a0_1 a0_2 a0_3 a0_4 a0_5 ji8 a0_7 a0_8 a0_9 a0_10) 25 (0, 0)) (BD BK491) hb); have n1_ := Aside0.mk (below_step (BW HB) hb); clear BK491; clear HB; have BK491 := n0_; have HB := n1_; clear n0_ n1_; (try clear hb)) | ((with_reducible refine gate_callee (f := 15) rfl ?_); refine goesL_ (some 47) rfl rfl Try.func15 (by kernel_rfl) rfl #[.string t494] rfl AG ?_; (with_reducible refine (packet_Classify.calls t494 t496 t497 t498 t499 t500 t501 t502 t503 t504 t505 t506 t507 t508 t509 t510 _ A11.out).mono ?_); rintro e w25 ⟨rfl, hb⟩; (try clear A11); refine ⟨_, rfl, ?_⟩; have n0_ := Aside0.mk (blk_below (g := gb491) (o := .cells (r11 (Int.tmod a0_0 2) a0_1 a0_2 a0_3 a0_4 a0_5 ji8 a0_7 a0_8 a0_9 a0_10) 25 (0, 0)) (BD BK491) hb); have n1_ := Aside0.mk (below_step (BW HB) hb); clear BK491; clear HB; have BK491 := n0_; have HB := n1_; clear n0_ n1_; (try clear hb)) | ((with_reducible refine gate_dst (N := 15) rfl ?_); (try (refine gate_guard (by rfl) ?_; dsimp only)); refine box_event ?hg (N := 15) ?hd (cs := (r14 0 0 0 0 0 0 0 0 0 0 0 0 0 0)) (t := 42) ?hr ?_; (case hd => rfl); (case hg => rfl); (case hr => first | (go_simp; done) | (go_simp; rfl)); intro gb511 hg w26 hbox hb; have n0_ := Aside0.mk (blk_below (g := gb491) (o := .cells (r11 (Int.tmod a0_0 2) a0_1 a0_2 a0_3 a0_4 a0_5 ji8 a0_7 a0_8 a0_9 a0_10) 25 (0, 0)) (BD BK491) hb); have n1_ := Aside0.mk (below_step (BW HB) hb); have n2_ := Aside0.mk (hbox); have n3_ := Aside0.mk ((by rw [hg]; exact (below_size (BW HB)) : w.heap.size ≤ gb511)); have n4_ := Aside0.mk ((by rw [hg]; exact (below_size (BW HB)) : w.heap.size ≤ gb511)); have n5_ := Aside0.mk ((by rw [hg]; exact Nat.ne_of_lt (blk_lt (g := gb491) (o := .cells (r11 (Int.tmod a0_0 2) a0_1 a0_2 a0_3 a0_4 a0_5 ji8 a0_7 a0_8 a0_9 a0_10) 25 (0, 0)) (BD BK491)) : gb491 ≠ gb511)); have n6_ := Aside0.mk ((by rw [hg]; exact Nat.ne_of_gt (blk_lt (g := gb491) (o := .cells (r11 (Int.tmod a0_0 2) a0_1 a0_2 a0_3 a0_4 a0_5 ji8 a0_7 a0_8 a0_9 a0_10) 25 (0, 0)) (BD BK491)) : gb511 ≠ gb491)); clear BK491; clear HB; have BK491 := n0_; have HB := n1_; have BK511 := n2_; have GW511 := n3_; have GE511 := n4_; have NB491_511 := n5_; have NB511_491 := n6_; clear n0_ n1_ n2_ n3_ n4_ n5_ n6_; clear hb hbox hg; have hnb27 := NB511_491.out; have hnc27 := NB491_511.out; obtain ⟨hcz28_0, hcz28_1, hcz28_2, hcz28_3, hcz28_4, hcz28_5, hcz28_6, hcz28_7, hcz28_8, hcz28_9, hcz28_10, hcz28_11, hcz28_12, hcz28_13, hfz28_0, hfz28_1, hfz28_2, hfz28_3, hfz28_4, hfz28_5, hfz28_6, hfz28_7, hfz28_8, hfz28_9, hfz28_10, hfz28_11, hfz28_12, hfz28_13⟩ := blk14 BK511.out; obtain ⟨hcz29_0, hcz29_1, hcz29_2, hcz29_3, hcz29_4, hcz29_5, hcz29_6, hcz29_7, hcz29_8, hcz29_9, hcz29_10, hfz29_0, hfz29_1, hfz29_2, hfz29_3, hfz29_4, hfz29_5, hfz29_6, hfz29_7, hfz29_8, hfz29_9, hfz29_10⟩ := blk11 BK491.out) | ((with_reducible refine gate_callee (f := 12) rfl ?_); refine goesL_ (some 63) rfl rfl Try.func12 (by kernel_rfl) rfl #[.string t494, .agg #[.int .u32 a0_1, .int .u32 a0_2, .int .i64 (wrap64 (a0_3)), .int .i64 (wrap64 (a0_4))]] rfl AG ?_; (with_reducible refine (patch_Plain.calls t494 a0_1 a0_2 (wrap64 (a0_3)) (wrap64 (a0_4)) t512 t513 _ A12.out).mono ?_); rintro e w30 ⟨rfl, hb⟩; (try clear A12); refine ⟨_, rfl, ?_⟩; have n0_ := Aside0.mk (blk_below (g := gb491) (o := .cells (r11 (Int.tmod a0_0 2) a0_1 a0_2 a0_3 a0_4 a0_5 ji8 a0_7 a0_8 a0_9 a0_10) 25 (0, 0)) (BE BK491) hb); have n1_ := Aside0.mk (blk_below (g := gb511) (o := .cells (r14 t496 t497 t498 t499 t500 t501 t502 t503 t504 t505 t506 t507 t508 t509) 42 (0, 0)) (BE BK511) hb); have n2_ := Aside0.mk (below_step (BW HB) hb); clear BK491; clear BK511; clear HB; have BK491 := n0_; have BK511 := n1_; have HB := n2_; clear n0_ n1_ n2_; (try clear hb); obtain ⟨hcz31_0, hcz31_1, hcz31_2, hcz31_3, hcz31_4, hcz31_5, hcz31_6, hcz31_7, hcz31_8, hcz31_9, hcz31_10, hfz31_0, hfz31_1, hfz31_2, hfz31_3, hfz31_4, hfz31_5, hfz31_6, hfz31_7, hfz31_8, hfz31_9, hfz31_10⟩ := blk11 BK491.out) | ((with_reducible refine gate_dst (N := 19) rfl ?_); (try (refine gate_guard (by rfl) ?_; dsimp only)); refine box_event ?hg (N := 19) ?hd (cs := (r11 0 0 0 0 0 0 0 (⟨#[]⟩ : ByteArray) false 0 0)) (t := 25) ?hr ?_; (case hd => rfl); (case hg => rfl); (case hr => first | (go_simp; done) | (go_simp; rfl)); intro gb514 hg w32 hbox hb; have n0_ := Aside0.mk (blk_below (g := gb491) (o := .cells (r11 (Int.tmod a0_0 2) a0_1 a0_2 a0_3 a0_4 a0_5 ji8 a0_7 a0_8 a0_9 a0_10) 25 (0, 0)) (BD BK491) hb); have n1_ := Aside0.mk (blk_below (g := gb511) (o := .cells (r14 t496 t497 t498 t499 t500 t501 t502 t503 t504 t505 t506 t507 t508 t509) 42 (0, 0)) (BD BK511) hb); have n2_ := Aside0.mk (below_step (BW HB) hb); have n3_ := Aside0.mk (hbox); have n4_ := Aside0.mk ((by rw [hg]; exact (below_size (BW HB)) : w.heap.size ≤ gb514)); have n5_ := Aside0.mk ((by rw [hg]; exact (below_size (BW HB)) : w.heap.size ≤ gb514)); have n6_ := Aside0.mk ((by rw [hg]; exact Nat.ne_of_lt (blk_lt (g := gb491) (o := .cells (r11 (Int.tmod a0_0 2) a0_1 a0_2 a0_3 a0_4 a0_5 ji8 a0_7 a0_8 a0_9 a0_10) 25 (0, 0)) (BD BK491)) : gb491 ≠ gb514)); have n7_ := Aside0.mk ((by rw [hg]; exact Nat.ne_of_gt (blk_lt (g := gb491) (o := .cells (r11 (Int.tmod a0_0 2) a0_1 a0_2 a0_3 a0_4 a0_5 ji8 a0_7 a0_8 a0_9 a0_10) 25 (0, 0)) (BD BK491)) : gb514 ≠ gb491)); have n8_ := Aside0.mk ((by rw [hg]; exact Nat.ne_of_lt (blk_lt (g := gb511) (o := .cells (r14 t496 t497 t498 t499 t500 t501 t502 t503 t504 t505 t506 t507 t508 t509) 42 (0, 0)) (BD BK511)) : gb511 ≠ gb514)); have n9_ := Aside0.mk ((by rw [hg]; exact Nat.ne_of_gt (blk_lt (g := gb511) (o := .cells (r14 t496 t497 t498 t499 t500 t501 t502 t503 t504 t505 t506 t507 t508 t509) 42 (0, 0)) (BD BK511)) : gb514 ≠ gb511)); clear BK491; clear BK511; clear HB; have BK491 := n0_; have BK511 := n1_; have HB := n2_; have BK514 := n3_; have GW514 := n4_; have GE514 := n5_; have NB491_514 := n6_; have NB514_491 := n7_; have NB511_514 := n8_; have NB514_511 := n9_; clear n0_ n1_ n2_ n3_ n4_ n5_ n6_ n7_ n8_ n9_; clear hb hbox hg; have hnb33 := NB514_491.out; have hnc33 := NB491_514.out; have hnb34 := NB514_511.out; have hnc34 := NB511_514.out; obtain ⟨hcz35_0, hcz35_1, hcz35_2, hcz35_3, hcz35_4, hcz35_5, hcz35_6, hcz35_7, hcz35_8, hcz35_9, hcz35_10, hfz35_0, hfz35_1, hfz35_2, hfz35_3, hfz35_4, hfz35_5, hfz35_6, hfz35_7, hfz35_8, hfz35_9, hfz35_10⟩ := blk11 BK514.out; obtain ⟨hcz36_0, hcz36_1, hcz36_2, hcz36_3, hcz36_4, hcz36_5, hcz36_6, hcz36_7, hcz36_8, hcz36_9, hcz36_10, hfz36_0, hfz36_1, hfz36_2, hfz36_3, hfz36_4, hfz36_5, hfz36_6, hfz36_7, hfz36_8, hfz36_9, hfz36_10⟩ := blk11 BK491.out; obtain ⟨hcz37_0, hcz37_1, hcz37_2, hcz37_3, hcz37_4, hcz37_5, hcz37_6, hcz37_7, hcz37_8, hcz37_9, hcz37_10, hcz37_11, hcz37_12, hcz37_13, hfz37_0, hfz37_1, hfz37_2, hfz37_3, hfz37_4, hfz37_5, hfz37_6, hfz37_7, hfz37_8, hfz37_9, hfz37_10, hfz37_11, hfz37_12, hfz37_13⟩ := blk14 BK511.out) | (go_at_call 11; (with_reducible refine (weighbridgelaw10_Make_frame.calls (Int.tmod a0_0 2) a0_1 a0_2 a0_3 a0_4 a0_5 (((ji8) - 2) % 256) a0_7 a0_8 a0_9 a0_10 t515 _ A19.out).mono ?_); rintro e w38 ⟨rfl, hb⟩; (try clear A19); have n0_ := Aside0.mk (blk_below (g := gb491) (o := .cells (r11 (Int.tmod a0_0 2) a0_1 a0_2 a0_3 a0_4 a0_5 ji8 a0_7 a0_8 a0_9 a0_10) 25 (0, 0)) (BE BK491) hb); have n1_ := Aside0.mk (blk_below (g := gb511) (o := .cells (r14 t496 t497 t498 t499 t500 t501 t502 t503 t504 t505 t506 t507 t508 t509) 42 (0, 0)) (BE BK511) hb); have n2_ := Aside0.mk (blk_below (g := gb514) (o := .cells (r11 (Int.tmod a0_0 2) a0_1 a0_2 a0_3 a0_4 a0_5 (((ji8) - 2) % 256) a0_7 a0_8 a0_9 a0_10) 25 (0, 0)) (BE BK514) hb); have n3_ := Aside0.mk (below_step (BW HB) hb); clear BK491; clear BK511; clear BK514; clear HB; have BK491 := n0_; have BK511 := n1_; have BK514 := n2_; have HB := n3_; clear n0_ n1_ n2_ n3_; (try clear hb)))
 have M0 := blk_put (cs' := (r11 (Int.tmod a0_0 2) 0 0 0 0 0 0 ⟨#[]⟩ false 0 0)) BK514.out 0 (.int .u8 (Int.tmod a0_0 2)) rfl
 have M1 := blk_put (cs' := (r11 (Int.tmod a0_0 2) a0_1 0 0 0 0 0 ⟨#[]⟩ false 0 0)) M0 1 (.int .u32 a0_1) rfl
 have M2 := blk_put (cs' := (r11 (Int.tmod a0_0 2) a0_1 a0_2 0 0 0 0 ⟨#[]⟩ false 0 0)) M1 2 (.int .u32 a0_2) rfl
 have M3 := blk_put (cs' := (r11 (Int.tmod a0_0 2) a0_1 a0_2 a0_3 0 0 0 ⟨#[]⟩ false 0 0)) M2 3 (.int .u16 a0_3) rfl
 have M4 := blk_put (cs' := (r11 (Int.tmod a0_0 2) a0_1 a0_2 a0_3 a0_4 0 0 ⟨#[]⟩ false 0 0)) M3 4 (.int .u16 a0_4) rfl
 have M5 := blk_put (cs' := (r11 (Int.tmod a0_0 2) a0_1 a0_2 a0_3 a0_4 a0_5 0 ⟨#[]⟩ false 0 0)) M4 5 (.int .u8 a0_5) rfl
 have M6 := blk_put (cs' := (r11 (Int.tmod a0_0 2) a0_1 a0_2 a0_3 a0_4 a0_5 ji8 ⟨#[]⟩ false 0 0)) M5 6 (.int .u8 ji8) rfl
 have M7 := blk_put (cs' := (r11 (Int.tmod a0_0 2) a0_1 a0_2 a0_3 a0_4 a0_5 ji8 a0_7 false 0 0)) M6 7 (.string a0_7) rfl
 have M8 := blk_put (cs' := (r11 (Int.tmod a0_0 2) a0_1 a0_2 a0_3 a0_4 a0_5 ji8 a0_7 a0_8 0 0)) M7 8 (.bool a0_8) rfl
 have M9 := blk_put (cs' := (r11 (Int.tmod a0_0 2) a0_1 a0_2 a0_3 a0_4 a0_5 ji8 a0_7 a0_8 a0_9 0)) M8 9 (.int .u32 a0_9) rfl
 have M10 := blk_put (cs' := (r11 (Int.tmod a0_0 2) a0_1 a0_2 a0_3 a0_4 a0_5 ji8 a0_7 a0_8 a0_9 a0_10)) M9 10 (.int .u32 a0_10) rfl
 have M11 := blk_put (cs' := (r11 (Int.tmod a0_0 2) a0_1 a0_2 a0_3 a0_4 a0_5 ((ji8 - 2) % 256) a0_7 a0_8 a0_9 a0_10)) M10 6 (.int .u8 ((ji8 - 2) % 256)) rfl
 have N0 : ((((((((((((w32.setCell ⟨gb514, 0, none⟩ (.int .u8 (Int.tmod a0_0 2))).setCell ⟨gb514, 1, none⟩ (.int .u32 a0_1)).setCell ⟨gb514, 2, none⟩ (.int .u32 a0_2)).setCell ⟨gb514, 3, none⟩ (.int .u16 a0_3)).setCell ⟨gb514, 4, none⟩ (.int .u16 a0_4)).setCell ⟨gb514, 5, none⟩ (.int .u8 a0_5)).setCell ⟨gb514, 6, none⟩ (.int .u8 ji8)).setCell ⟨gb514, 7, none⟩ (.string a0_7)).setCell ⟨gb514, 8, none⟩ (.bool a0_8)).setCell ⟨gb514, 9, none⟩ (.int .u32 a0_9)).setCell ⟨gb514, 10, none⟩ (.int .u32 a0_10)).setCell ⟨gb514, 6, none⟩ (.int .u8 ((ji8 - 2) % 256))).heap[gb514]? = some (.cells (r11 (Int.tmod a0_0 2) a0_1 a0_2 a0_3 a0_4 a0_5 ((ji8 - 2) % 256) a0_7 a0_8 a0_9 a0_10) 25 (0, 0)) := M11
 have N1 : ((((((((((((w32.setCell ⟨gb514, 0, none⟩ (.int .u8 (Int.tmod a0_0 2))).setCell ⟨gb514, 1, none⟩ (.int .u32 a0_1)).setCell ⟨gb514, 2, none⟩ (.int .u32 a0_2)).setCell ⟨gb514, 3, none⟩ (.int .u16 a0_3)).setCell ⟨gb514, 4, none⟩ (.int .u16 a0_4)).setCell ⟨gb514, 5, none⟩ (.int .u8 a0_5)).setCell ⟨gb514, 6, none⟩ (.int .u8 ji8)).setCell ⟨gb514, 7, none⟩ (.string a0_7)).setCell ⟨gb514, 8, none⟩ (.bool a0_8)).setCell ⟨gb514, 9, none⟩ (.int .u32 a0_9)).setCell ⟨gb514, 10, none⟩ (.int .u32 a0_10)).setCell ⟨gb514, 6, none⟩ (.int .u8 ((ji8 - 2) % 256))).heap[gb491]? = some (.cells (r11 (Int.tmod a0_0 2) a0_1 a0_2 a0_3 a0_4 a0_5 ji8 a0_7 a0_8 a0_9 a0_10) 25 (0, 0)) := (blk_far (blk_far (blk_far (blk_far (blk_far (blk_far (blk_far (blk_far (blk_far (blk_far (blk_far (blk_far BK491.out NB491_514.out _) NB491_514.out _) NB491_514.out _) NB491_514.out _) NB491_514.out _) NB491_514.out _) NB491_514.out _) NB491_514.out _) NB491_514.out _) NB491_514.out _) NB491_514.out _) NB491_514.out _)
 have N2 : ((((((((((((w32.setCell ⟨gb514, 0, none⟩ (.int .u8 (Int.tmod a0_0 2))).setCell ⟨gb514, 1, none⟩ (.int .u32 a0_1)).setCell ⟨gb514, 2, none⟩ (.int .u32 a0_2)).setCell ⟨gb514, 3, none⟩ (.int .u16 a0_3)).setCell ⟨gb514, 4, none⟩ (.int .u16 a0_4)).setCell ⟨gb514, 5, none⟩ (.int .u8 a0_5)).setCell ⟨gb514, 6, none⟩ (.int .u8 ji8)).setCell ⟨gb514, 7, none⟩ (.string a0_7)).setCell ⟨gb514, 8, none⟩ (.bool a0_8)).setCell ⟨gb514, 9, none⟩ (.int .u32 a0_9)).setCell ⟨gb514, 10, none⟩ (.int .u32 a0_10)).setCell ⟨gb514, 6, none⟩ (.int .u8 ((ji8 - 2) % 256))).heap[gb511]? = some (.cells (r14 t496 t497 t498 t499 t500 t501 t502 t503 t504 t505 t506 t507 t508 t509) 42 (0, 0)) := (blk_far (blk_far (blk_far (blk_far (blk_far (blk_far (blk_far (blk_far (blk_far (blk_far (blk_far (blk_far BK511.out NB511_514.out _) NB511_514.out _) NB511_514.out _) NB511_514.out _) NB511_514.out _) NB511_514.out _) NB511_514.out _) NB511_514.out _) NB511_514.out _) NB511_514.out _) NB511_514.out _) NB511_514.out _)
 have N3 : Below w.heap.size w ((((((((((((w32.setCell ⟨gb514, 0, none⟩ (.int .u8 (Int.tmod a0_0 2))).setCell ⟨gb514, 1, none⟩ (.int .u32 a0_1)).setCell ⟨gb514, 2, none⟩ (.int .u32 a0_2)).setCell ⟨gb514, 3, none⟩ (.int .u16 a0_3)).setCell ⟨gb514, 4, none⟩ (.int .u16 a0_4)).setCell ⟨gb514, 5, none⟩ (.int .u8 a0_5)).setCell ⟨gb514, 6, none⟩ (.int .u8 ji8)).setCell ⟨gb514, 7, none⟩ (.string a0_7)).setCell ⟨gb514, 8, none⟩ (.bool a0_8)).setCell ⟨gb514, 9, none⟩ (.int .u32 a0_9)).setCell ⟨gb514, 10, none⟩ (.int .u32 a0_10)).setCell ⟨gb514, 6, none⟩ (.int .u8 ((ji8 - 2) % 256))) := (Below.setCell (Below.setCell (Below.setCell (Below.setCell (Below.setCell (Below.setCell (Below.setCell (Below.setCell (Below.setCell (Below.setCell (Below.setCell (Below.setCell HB.out GE514.out _) GE514.out _) GE514.out _) GE514.out _) GE514.out _) GE514.out _) GE514.out _) GE514.out _) GE514.out _) GE514.out _) GE514.out _) GE514.out _)
 clear M0 M1 M2 M3 M4 M5 M6 M7 M8 M9 M10 M11 BK491 BK511 BK514 HB hcz35_0 hfz35_0 hcz35_1 hfz35_1 hcz35_2 hfz35_2 hcz35_3 hfz35_3 hcz35_4 hfz35_4 hcz35_5 hfz35_5 hcz35_6 hfz35_6 hcz35_7 hfz35_7 hcz35_8 hfz35_8 hcz35_9 hfz35_9 hcz35_10 hfz35_10 hcz36_0 hfz36_0 hcz36_1 hfz36_1 hcz36_2 hfz36_2 hcz36_3 hfz36_3 hcz36_4 hfz36_4 hcz36_5 hfz36_5 hcz36_6 hfz36_6 hcz36_7 hfz36_7 hcz36_8 hfz36_8 hcz36_9 hfz36_9 hcz36_10 hfz36_10 hcz37_0 hfz37_0 hcz37_1 hfz37_1 hcz37_2 hfz37_2 hcz37_3 hfz37_3 hcz37_4 hfz37_4 hcz37_5 hfz37_5 hcz37_6 hfz37_6 hcz37_7 hfz37_7 hcz37_8 hfz37_8 hcz37_9 hfz37_9 hcz37_10 hfz37_10 hcz37_11 hfz37_11 hcz37_12 hfz37_12 hcz37_13 hfz37_13
 have N := Lib.hid (And.intro N0 (And.intro N1 (And.intro N2 N3)))
 clear N0 N1 N2 N3
 generalize ((((((((((((w32.setCell ⟨gb514, 0, none⟩ (.int .u8 (Int.tmod a0_0 2))).setCell ⟨gb514, 1, none⟩ (.int .u32 a0_1)).setCell ⟨gb514, 2, none⟩ (.int .u32 a0_2)).setCell ⟨gb514, 3, none⟩ (.int .u16 a0_3)).setCell ⟨gb514, 4, none⟩ (.int .u16 a0_4)).setCell ⟨gb514, 5, none⟩ (.int .u8 a0_5)).setCell ⟨gb514, 6, none⟩ (.int .u8 ji8)).setCell ⟨gb514, 7, none⟩ (.string a0_7)).setCell ⟨gb514, 8, none⟩ (.bool a0_8)).setCell ⟨gb514, 9, none⟩ (.int .u32 a0_9)).setCell ⟨gb514, 10, none⟩ (.int .u32 a0_10)).setCell ⟨gb514, 6, none⟩ (.int .u8 ((ji8 - 2) % 256))) = wN at N ⊢
 have BK514 := Aside0.mk N.out.1
 have BK491 := Aside0.mk N.out.2.1
 have BK511 := Aside0.mk N.out.2.2.1
 have HB := Aside0.mk N.out.2.2.2
 clear N
 have k6 := (blk_cell BK491.out 6).trans (show _ = some (.int .u8 ji8) from rfl)
 have n0 := (blk_cell BK514.out 0).trans (show _ = some (.int .u8 (Int.tmod a0_0 2)) from rfl)
 have n1 := (blk_cell BK514.out 1).trans (show _ = some (.int .u32 a0_1) from rfl)
 have n2 := (blk_cell BK514.out 2).trans (show _ = some (.int .u32 a0_2) from rfl)
 have n3 := (blk_cell BK514.out 3).trans (show _ = some (.int .u16 a0_3) from rfl)
 have n4 := (blk_cell BK514.out 4).trans (show _ = some (.int .u16 a0_4) from rfl)
 have n5 := (blk_cell BK514.out 5).trans (show _ = some (.int .u8 a0_5) from rfl)
 have n6 := (blk_cell BK514.out 6).trans (show _ = some (.int .u8 ((ji8 - 2) % 256)) from rfl)
 have n7 := (blk_cell BK514.out 7).trans (show _ = some (.string a0_7) from rfl)
 have n8 := (blk_cell BK514.out 8).trans (show _ = some (.bool a0_8) from rfl)
 have n9 := (blk_cell BK514.out 9).trans (show _ = some (.int .u32 a0_9) from rfl)
 have n10 := (blk_cell BK514.out 10).trans (show _ = some (.int .u32 a0_10) from rfl)
 have q3 := (blk_cell BK511.out 3).trans (show _ = some (.int .i64 t499) from rfl)
 have q4 := (blk_cell BK511.out 4).trans (show _ = some (.int .u32 t500) from rfl)
 have q5 := (blk_cell BK511.out 5).trans (show _ = some (.int .u32 t501) from rfl)
 have q6 := (blk_cell BK511.out 6).trans (show _ = some (.int .i64 t502) from rfl)
 have q7 := (blk_cell BK511.out 7).trans (show _ = some (.int .i64 t503) from rfl)
 have q9 := (blk_cell BK511.out 9).trans (show _ = some (.int .i64 t505) from rfl)
 go_wp2_with (fail)
 refine (weighbridgelaw10_Make_frame.calls (Int.tmod a0_0 2) a0_1 a0_2 a0_3 a0_4 a0_5 ((ji8 - 2) % 256) a0_7 a0_8 a0_9 a0_10 t515 _ A19.out).mono ?_
 rintro e w36 ⟨rfl, hb⟩
 have HB2 := Aside0.mk (below_step HB.out hb)
 clear hb HB
 have HB := HB2
 clear HB2
 go_wp2_with (fail)
 go_ret
 exact ⟨by first | rfl | (simp [errW_none, errW_some] <;> rfl) | (simp only [← hji8]; first | rfl | (simp [errW_none, errW_some] <;> rfl)) | (simp [*, errW_none, errW_some] <;> rfl), BW HB⟩

/-- THE ONE PURE STATEMENT of weighbridgelaw10_PatchBack: yours. -/
def weighbridgelaw10_PatchBack.Pure : Prop := ∀ (a0_0 : Int) (a0_1 : Int) (a0_2 : Int) (a0_3 : Int) (a0_4 : Int) (a0_5 : Int) (a0_6 : Int) (a0_7 : ByteArray) (a0_8 : Bool) (a0_9 : Int) (a0_10 : Int) (a1 : Int) (a2 : Int) (a3 : Int) (a4 : Int), (Lit.int .u8 a0_0).wf = true → (Lit.int .u32 a0_1).wf = true → (Lit.int .u32 a0_2).wf = true → (Lit.int .u16 a0_3).wf = true → (Lit.int .u16 a0_4).wf = true → (Lit.int .u8 a0_5).wf = true → (Lit.int .u8 a0_6).wf = true → a0_7.size ≤ 140737488351232 → (Lit.int .u32 a0_9).wf = true → (Lit.int .u32 a0_10).wf = true → (Lit.int .u32 a1).wf = true → (Lit.int .u32 a2).wf = true → (Lit.int .u16 a3).wf = true → (Lit.int .u16 a4).wf = true → weighbridgelaw10_PatchBack.f a0_0 a0_1 a0_2 a0_3 a0_4 a0_5 a0_6 a0_7 a0_8 a0_9 a0_10 a1 a2 a3 a4 = some true
theorem weighbridgelaw10_PatchBack.walk (P : weighbridgelaw10_PatchBack.Pure) (a0_0 : Int) (a0_1 : Int) (a0_2 : Int) (a0_3 : Int) (a0_4 : Int) (a0_5 : Int) (a0_6 : Int) (a0_7 : ByteArray) (a0_8 : Bool) (a0_9 : Int) (a0_10 : Int) (a1 : Int) (a2 : Int) (a3 : Int) (a4 : Int) (w : World) (w0_0 : (Lit.int .u8 a0_0).wf = true) (w0_1 : (Lit.int .u32 a0_1).wf = true) (w0_2 : (Lit.int .u32 a0_2).wf = true) (w0_3 : (Lit.int .u16 a0_3).wf = true) (w0_4 : (Lit.int .u16 a0_4).wf = true) (w0_5 : (Lit.int .u8 a0_5).wf = true) (w0_6 : (Lit.int .u8 a0_6).wf = true) (w0_7 : a0_7.size ≤ 140737488351232) (w0_9 : (Lit.int .u32 a0_9).wf = true) (w0_10 : (Lit.int .u32 a0_10).wf = true) (w1 : (Lit.int .u32 a1).wf = true) (w2 : (Lit.int .u32 a2).wf = true) (w3 : (Lit.int .u16 a3).wf = true) (w4 : (Lit.int .u16 a4).wf = true) :
  Calls Try.prog 4 #[.agg #[.int .u8 a0_0, .int .u32 a0_1, .int .u32 a0_2, .int .u16 a0_3, .int .u16 a0_4, .int .u8 a0_5, .int .u8 a0_6, .string a0_7, .bool a0_8, .int .u32 a0_9, .int .u32 a0_10], .int .u32 a1, .int .u32 a2, .int .u16 a3, .int .u16 a4] w fun e w' => e = .returned (.bool true) ∧ Below w.heap.size w w' := by
 have h := P a0_0 a0_1 a0_2 a0_3 a0_4 a0_5 a0_6 a0_7 a0_8 a0_9 a0_10 a1 a2 a3 a4 w0_0 w0_1 w0_2 w0_3 w0_4 w0_5 w0_6 w0_7 w0_9 w0_10 w1 w2 w3 w4
 refine (weighbridgelaw10_PatchBack.calls a0_0 a0_1 a0_2 a0_3 a0_4 a0_5 a0_6 a0_7 a0_8 a0_9 a0_10 a1 a2 a3 a4 true w h rfl).mono ?_
 rintro e w' ⟨rfl, hd⟩
 exact ⟨rfl, hd⟩
end Go.Proofs.Ytfnjohklmpiboaa.Pr
