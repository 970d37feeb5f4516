-- trimmed by trims.py
-- Written by a program of the session (wip/tools) out of the translation, over the kit's print; with pieces of the session's own.
import Derived.Test.YtfnjohklmpiboaaPr0
import Derived.Test.YtfnjohklmpiboaaPr9
import Derived.Test.YtfnjohklmpiboaaPr19
namespace Go.Proofs.Ytfnjohklmpiboaa.Pr
open Go.RowKit Go.Proofs.YtfnjohklmpiboaaW.PrintWords Go.Proofs.YtfnjohklmpiboaaW.PrintLast Go.Proofs.YtfnjohklmpiboaaW.PrintMore
attribute [local go_sem] max2_int min2_int max_two min_two max_three min_three max_four min_four   -- for this text's walks alone
set_option linter.unusedVariables false
set_option linter.unusedSimpArgs false
open Go.Proofs.Ytfnjohklmpiboaa.Sp
/-! ### weighbridgelaw10_PatchPads: function 8 -/
def weighbridgelaw10_PatchPads.f (a0_0 : Int) (a0_1 : Int) (a0_2 : Int) (a0_3 : Int) (a0_4 : Int) (a0_5 : Int) (a0_6 : Int) (a0_7 : ByteArray) (a0_8 : Bool) (a0_9 : Int) (a0_10 : Int) (a1 : ByteArray) : Option (Bool) := (weighbridgelaw10_examples.f).bind fun t580 => (if t580 = true then ((weighbridgelaw10_Make_frame.f a0_0 a0_1 a0_2 a0_3 a0_4 a0_5 (mx a0_6 2) a0_7 a0_8 a0_9 a0_10).bind fun t581 => ((patch_Plain.f t581 1 2 3 4).bind fun bt583 => (if t581.size + a1.size ≤ 9223372036854775807 then ((patch_Plain.f (t581 ++ a1) 1 2 3 4).bind fun bt585 => ((patch_About.f t581 5 6 1 2 3 4).bind fun bt587 => ((patch_About.f (t581 ++ a1) 5 6 1 2 3 4).bind fun bt589 => (if bt583.1.toList = bt585.1.toList then (if bt583.2 = bt585.2 then (if bt587.1.toList = bt589.1.toList then (if bt587.2 = bt589.2 then (if bt583.2 = 0 then (some true) else (some (bt587.2 == 0))) else (some false)) else (some false)) else (some false)) else (some false))))) else (none)))) else (some false))
set_option maxHeartbeats 8000000 in
set_option maxRecDepth 100000 in
theorem weighbridgelaw10_PatchPads.calls (a0_0 : Int) (a0_1 : Int) (a0_2 : Int) (a0_3 : Int) (a0_4 : Int) (a0_5 : Int) (a0_6 : Int) (a0_7 : ByteArray) (a0_8 : Bool) (a0_9 : Int) (a0_10 : Int) (a1 : ByteArray) (r : Bool) (w : World) (h : weighbridgelaw10_PatchPads.f a0_0 a0_1 a0_2 a0_3 a0_4 a0_5 a0_6 a0_7 a0_8 a0_9 a0_10 a1 = some r) (hr_ : r = true) :
  Calls Try.prog 8 #[.agg #[.int .u8 a0_0, .int .u32 a0_1, .int .u32 a0_2, .int .u16 a0_3, .int .u16 a0_4, .int .u8 a0_5, .int .u8 a0_6, .string a0_7, .bool a0_8, .int .u32 a0_9, .int .u32 a0_10], .string a1] w fun e w' => e = .returned (.bool r) ∧ Below w.heap.size w w' := by
 have hu25 := Try.underlying25
 have hu27 := Try.underlying27
 have HB := Aside0.mk (Below.refl w.heap.size w)
 have H := h
 unfold weighbridgelaw10_PatchPads.f at H
 clear h
 replace H := Option.bind_eq_some_iff.mp H
 obtain ⟨t580, A30, H⟩ := H
 (try set_option simprocs false in dsimp only at H)
 have A3 := Aside0.mk A30
 clear A30
 by_cases c4 : t580 = true
 rotate_left
 ·replace c4 := Bool.eq_false_iff.mpr c4
  subst c4
  have H1 : (some false) = some r := by rw [if_neg (show ¬ (false = true) by decide)] at H; exact H
  clear H
  have H := H1
  clear H1
  exact absurd ((Option.some.inj H).trans hr_) (by decide)
 subst c4
 first | rw [if_pos rfl] at H | rw [if_pos trivial] at H
 obtain ⟨ji5, hji5⟩ : ∃ j_ : Int, (mx a0_6 2) = j_ := ⟨_, rfl⟩
 replace H : ((weighbridgelaw10_Make_frame.f a0_0 a0_1 a0_2 a0_3 a0_4 a0_5 (ji5) a0_7 a0_8 a0_9 a0_10).bind fun t581 => ((patch_Plain.f t581 1 2 3 4).bind fun bt583 => (if t581.size + a1.size ≤ 9223372036854775807 then ((patch_Plain.f (t581 ++ a1) 1 2 3 4).bind fun bt585 => ((patch_About.f t581 5 6 1 2 3 4).bind fun bt587 => ((patch_About.f (t581 ++ a1) 5 6 1 2 3 4).bind fun bt589 => (if bt583.1.toList = bt585.1.toList then (if bt583.2 = bt585.2 then (if bt587.1.toList = bt589.1.toList then (if bt587.2 = bt589.2 then (if bt583.2 = 0 then (some true) else (some (bt587.2 == 0))) else (some false)) else (some false)) else (some false)) else (some false))))) else (none)))) = some r := by first | (rw [hji5] at H; exact H) | (simp only [hji5] at H ⊢; exact H)
 (try rw [hji5] at A3)
 (try (have hji5l : 2 ≤ ji5 := by (rw [← hji5]; unfold mx; (repeat' split) <;> omega)))
 (try (have hji5m : 0 ≤ ji5 := by omega))
 have hji5_ : (if a0_6 < 2 then 2 else a0_6) = ji5 := hji5
 replace H := Option.bind_eq_some_iff.mp H
 obtain ⟨t581, A60, H⟩ := H
 (try set_option simprocs false in dsimp only at H)
 have A6 := Aside0.mk A60
 clear A60
 replace H := Option.bind_eq_some_iff.mp H
 obtain ⟨⟨t583, t584⟩, A70, H⟩ := H
 (try set_option simprocs false in dsimp only at H)
 have A7 := Aside0.mk A70
 clear A70
 by_cases c8 : t581.size + a1.size ≤ 9223372036854775807
 rotate_left
 ·rw [if_neg c8] at H
  exact absurd H (by simp)
 rw [if_pos c8] at H
 have c8b0 := eq_true c8
 have c8b1 : decide (t581.size + a1.size ≤ 9223372036854775807) = true := decide_eq_true c8
 try have c8b2 : (9223372036854775807 < t581.size + a1.size) = False := eq_false (Nat.not_lt.2 c8)
 replace H := Option.bind_eq_some_iff.mp H
 obtain ⟨⟨t585, t586⟩, A90, H⟩ := H
 (try set_option simprocs false in dsimp only at H)
 have A9 := Aside0.mk A90
 clear A90
 replace H := Option.bind_eq_some_iff.mp H
 obtain ⟨⟨t587, t588⟩, A100, H⟩ := H
 (try set_option simprocs false in dsimp only at H)
 have A10 := Aside0.mk A100
 clear A100
 replace H := Option.bind_eq_some_iff.mp H
 obtain ⟨⟨t589, t590⟩, A110, H⟩ := H
 (try set_option simprocs false in dsimp only at H)
 have A11 := Aside0.mk A110
 clear A110
 by_cases c12 : t583.toList = t585.toList
 rotate_left
 ·rw [if_neg c12] at H
  have c12b0 : (t583.toList == t585.toList) = false := beq_eq_false_iff_ne.mpr c12
  have c12b1 : (t583.toList != t585.toList) = true := bne_iff_ne.mpr c12
  exact absurd ((Option.some.inj H).trans hr_) (by decide)
 rw [if_pos c12] at H
 have c12b0 : (t583.toList == t585.toList) = true := beq_iff_eq.mpr c12
 have c12b1 : (t583.toList != t585.toList) = false := bne_eq_false_iff_eq.mpr c12
 clear c12
 by_cases c13 : t584 = t586
 rotate_left
 ·rw [if_neg c13] at H
  have c13b0 : (t584 == t586) = false := beq_eq_false_iff_ne.mpr c13
  have c13b1 : (t584 != t586) = true := bne_iff_ne.mpr c13
  exact absurd ((Option.some.inj H).trans hr_) (by decide)
 rw [if_pos c13] at H
 have c13b0 : (t584 == t586) = true := beq_iff_eq.mpr c13
 have c13b1 : (t584 != t586) = false := bne_eq_false_iff_eq.mpr c13
 clear c13
 by_cases c14 : t587.toList = t589.toList
 rotate_left
 ·rw [if_neg c14] at H
  have c14b0 : (t587.toList == t589.toList) = false := beq_eq_false_iff_ne.mpr c14
  have c14b1 : (t587.toList != t589.toList) = true := bne_iff_ne.mpr c14
  exact absurd ((Option.some.inj H).trans hr_) (by decide)
 rw [if_pos c14] at H
 have c14b0 : (t587.toList == t589.toList) = true := beq_iff_eq.mpr c14
 have c14b1 : (t587.toList != t589.toList) = false := bne_eq_false_iff_eq.mpr c14
 clear c14
 by_cases c15 : t588 = t590
 ·rw [if_pos c15] at H
  have c15b0 : (t588 == t590) = true := beq_iff_eq.mpr c15
  have c15b1 : (t588 != t590) = false := bne_eq_false_iff_eq.mpr c15
  clear c15
  by_cases c16 : t584 = 0
  ·rw [if_pos c16] at H
   have c16b0 : (t584 == 0) = true := beq_iff_eq.mpr c16
   have c16b1 : (t584 != 0) = false := bne_eq_false_iff_eq.mpr c16
   clear c16
   obtain rfl := Option.some.inj H
   go_enter Try.func8, Try.ntmps8
   go_wp2_with (first | ((with_reducible refine gate_dst (N := 2) rfl ?_); refine box_event ?hg (N := 2) ?hd (cs := (r11 a0_0 a0_1 a0_2 a0_3 a0_4 a0_5 a0_6 a0_7 a0_8 a0_9 a0_10)) (t := 25) ?hr ?_; (case hd => rfl); (case hg => rfl); (case hr => first | (go_simp; done) | (go_simp; rfl)); intro gb579 hg w17 hbox hb; have n0_ := Aside0.mk (below_step (BW HB) hb); have n1_ := Aside0.mk (hbox); have n2_ := Aside0.mk ((by rw [hg]; exact (below_size (BW HB)) : w.heap.size ≤ gb579)); have n3_ := Aside0.mk ((by rw [hg]; exact (below_size (BW HB)) : w.heap.size ≤ gb579)); clear HB; have HB := n0_; have BK579 := n1_; have GW579 := n2_; have GE579 := n3_; clear n0_ n1_ n2_ n3_; clear hb hbox hg) | ((with_reducible refine gate_callee (f := 9) rfl ?_); refine goesL_ (some 16) rfl rfl Try.func9 (by kernel_rfl) rfl #[] rfl AG ?_; (with_reducible refine (weighbridgelaw10_examples.calls  true _ A3.out).mono ?_); rintro e w18 ⟨rfl, hb⟩; (try clear A3); refine ⟨_, rfl, ?_⟩; have n0_ := Aside0.mk (blk_below (g := gb579) (o := .cells (r11 a0_0 a0_1 a0_2 a0_3 a0_4 a0_5 a0_6 a0_7 a0_8 a0_9 a0_10) 25 (0, 0)) (BD BK579) hb); have n1_ := Aside0.mk (below_step (BW HB) hb); clear BK579; clear HB; have BK579 := n0_; have HB := n1_; clear n0_ n1_; (try clear hb); obtain ⟨hcz19_0, hcz19_1, hcz19_2, hcz19_3, hcz19_4, hcz19_5, hcz19_6, hcz19_7, hcz19_8, hcz19_9, hcz19_10, hfz19_0, hfz19_1, hfz19_2, hfz19_3, hfz19_4, hfz19_5, hfz19_6, hfz19_7, hfz19_8, hfz19_9, hfz19_10⟩ := blk11 BK579.out) | ((with_reducible refine gate_callee (f := 11) rfl ?_); refine goesL_ (some 24) rfl rfl Try.func11 (by kernel_rfl) rfl #[.agg #[.int .u8 a0_0, .int .u32 a0_1, .int .u32 a0_2, .int .u16 a0_3, .int .u16 a0_4, .int .u8 a0_5, .int .u8 ji5, .string a0_7, .bool a0_8, .int .u32 a0_9, .int .u32 a0_10]] rfl (by (try simp only [List.map_toArray, List.map_cons, List.map_nil]); first | done | (simp only [hji5]; rfl) | rfl | (simp only [List.length_drop, List.length_take]; rfl)) ?_; (with_reducible refine (weighbridgelaw10_Make_frame.calls a0_0 a0_1 a0_2 a0_3 a0_4 a0_5 ji5 a0_7 a0_8 a0_9 a0_10 t581 _ A6.out).mono ?_); rintro e w20 ⟨rfl, hb⟩; (try clear A6); refine ⟨_, rfl, ?_⟩; have n0_ := Aside0.mk (blk_below (g := gb579) (o := .cells (r11 a0_0 a0_1 a0_2 a0_3 a0_4 a0_5 ji5 a0_7 a0_8 a0_9 a0_10) 25 (0, 0)) (BE BK579) hb); have n1_ := Aside0.mk (below_step (BW HB) hb); clear BK579; clear HB; have BK579 := n0_; have HB := n1_; clear n0_ n1_; (try clear hb)) | ((with_reducible refine gate_dst (N := 7) rfl ?_); refine box_event ?hg (N := 7) ?hd (cs := #[.int .u32 0, .int .u32 0, .int .i64 0, .int .i64 0]) (t := 27) ?hr ?_; (case hd => rfl); (case hg => rfl); (case hr => first | (go_simp; done) | (go_simp; rfl)); intro gb582 hg w21 hbox hb; have n0_ := Aside0.mk (blk_below (g := gb579) (o := .cells (r11 a0_0 a0_1 a0_2 a0_3 a0_4 a0_5 ji5 a0_7 a0_8 a0_9 a0_10) 25 (0, 0)) (BD BK579) hb); have n1_ := Aside0.mk (below_step (BW HB) hb); have n2_ := Aside0.mk (hbox); have n3_ := Aside0.mk ((by rw [hg]; exact (below_size (BW HB)) : w.heap.size ≤ gb582)); have n4_ := Aside0.mk ((by rw [hg]; exact (below_size (BW HB)) : w.heap.size ≤ gb582)); have n5_ := Aside0.mk ((by rw [hg]; exact Nat.ne_of_lt (blk_lt (g := gb579) (o := .cells (r11 a0_0 a0_1 a0_2 a0_3 a0_4 a0_5 ji5 a0_7 a0_8 a0_9 a0_10) 25 (0, 0)) (BD BK579)) : gb579 ≠ gb582)); have n6_ := Aside0.mk ((by rw [hg]; exact Nat.ne_of_gt (blk_lt (g := gb579) (o := .cells (r11 a0_0 a0_1 a0_2 a0_3 a0_4 a0_5 ji5 a0_7 a0_8 a0_9 a0_10) 25 (0, 0)) (BD BK579)) : gb582 ≠ gb579)); clear BK579; clear HB; have BK579 := n0_; have HB := n1_; have BK582 := n2_; have GW582 := n3_; have GE582 := n4_; have NB579_582 := n5_; have NB582_579 := n6_; clear n0_ n1_ n2_ n3_ n4_ n5_ n6_; clear hb hbox hg; have hnb22 := NB582_579.out; have hnc22 := NB579_582.out; obtain ⟨hcz23_0, hcz23_1, hcz23_2, hcz23_3, hfz23_0, hfz23_1, hfz23_2, hfz23_3⟩ := blk4 BK582.out) | ((with_reducible refine gate_callee (f := 12) rfl ?_); refine goesL_ (some 29) rfl rfl Try.func12 (by kernel_rfl) rfl #[.string t581, .agg #[.int .u32 1, .int .u32 2, .int .i64 3, .int .i64 4]] rfl AG ?_; (with_reducible refine (patch_Plain.calls t581 1 2 3 4 t583 t584 _ A7.out).mono ?_); rintro e w24 ⟨rfl, hb⟩; (try clear A7); refine ⟨_, rfl, ?_⟩; have n0_ := Aside0.mk (blk_below (g := gb579) (o := .cells (r11 a0_0 a0_1 a0_2 a0_3 a0_4 a0_5 ji5 a0_7 a0_8 a0_9 a0_10) 25 (0, 0)) (BE BK579) hb); have n1_ := Aside0.mk (blk_below (g := gb582) (o := .cells #[.int .u32 1, .int .u32 2, .int .i64 3, .int .i64 4] 27 (0, 0)) (BE BK582) hb); have n2_ := Aside0.mk (below_step (BW HB) hb); clear BK579; clear BK582; clear HB; have BK579 := n0_; have BK582 := n1_; have HB := n2_; clear n0_ n1_ n2_; (try clear hb); obtain ⟨hcz25_0, hcz25_1, hcz25_2, hcz25_3, hfz25_0, hfz25_1, hfz25_2, hfz25_3⟩ := blk4 BK582.out) | ((with_reducible refine gate_callee (f := 12) rfl ?_); refine goesL_ (some 37) rfl rfl Try.func12 (by kernel_rfl) rfl #[.string (t581 ++ a1), .agg #[.int .u32 1, .int .u32 2, .int .i64 3, .int .i64 4]] rfl AG ?_; (with_reducible refine (patch_Plain.calls (t581 ++ a1) 1 2 3 4 t585 t586 _ A9.out).mono ?_); rintro e w26 ⟨rfl, hb⟩; (try clear A9); refine ⟨_, rfl, ?_⟩; have n0_ := Aside0.mk (blk_below (g := gb579) (o := .cells (r11 a0_0 a0_1 a0_2 a0_3 a0_4 a0_5 ji5 a0_7 a0_8 a0_9 a0_10) 25 (0, 0)) (BD BK579) hb); have n1_ := Aside0.mk (blk_below (g := gb582) (o := .cells #[.int .u32 1, .int .u32 2, .int .i64 3, .int .i64 4] 27 (0, 0)) (BD BK582) hb); have n2_ := Aside0.mk (below_step (BW HB) hb); clear BK579; clear BK582; clear HB; have BK579 := n0_; have BK582 := n1_; have HB := n2_; clear n0_ n1_ n2_; (try clear hb); obtain ⟨hcz27_0, hcz27_1, hcz27_2, hcz27_3, hfz27_0, hfz27_1, hfz27_2, hfz27_3⟩ := blk4 BK582.out) | ((with_reducible refine gate_callee (f := 16) rfl ?_); refine goesL_ (some 43) rfl rfl Try.func16 (by kernel_rfl) rfl #[.string t581, .int .u32 5, .int .u32 6, .agg #[.int .u32 1, .int .u32 2, .int .i64 3, .int .i64 4]] rfl AG ?_; (with_reducible refine (patch_About.calls t581 5 6 1 2 3 4 t587 t588 _ A10.out).mono ?_); rintro e w28 ⟨rfl, hb⟩; (try clear A10); refine ⟨_, rfl, ?_⟩; have n0_ := Aside0.mk (blk_below (g := gb579) (o := .cells (r11 a0_0 a0_1 a0_2 a0_3 a0_4 a0_5 ji5 a0_7 a0_8 a0_9 a0_10) 25 (0, 0)) (BD BK579) hb); have n1_ := Aside0.mk (blk_below (g := gb582) (o := .cells #[.int .u32 1, .int .u32 2, .int .i64 3, .int .i64 4] 27 (0, 0)) (BD BK582) hb); have n2_ := Aside0.mk (below_step (BW HB) hb); clear BK579; clear BK582; clear HB; have BK579 := n0_; have BK582 := n1_; have HB := n2_; clear n0_ n1_ n2_; (try clear hb); obtain ⟨hcz29_0, hcz29_1, hcz29_2, hcz29_3, hfz29_0, hfz29_1, hfz29_2, hfz29_3⟩ := blk4 BK582.out) | ((with_reducible refine gate_callee (f := 16) rfl ?_); refine goesL_ (some 51) rfl rfl Try.func16 (by kernel_rfl) rfl #[.string (t581 ++ a1), .int .u32 5, .int .u32 6, .agg #[.int .u32 1, .int .u32 2, .int .i64 3, .int .i64 4]] rfl AG ?_; (with_reducible refine (patch_About.calls (t581 ++ a1) 5 6 1 2 3 4 t589 t590 _ A11.out).mono ?_); rintro e w30 ⟨rfl, hb⟩; (try clear A11); refine ⟨_, rfl, ?_⟩; have n0_ := Aside0.mk (blk_below (g := gb579) (o := .cells (r11 a0_0 a0_1 a0_2 a0_3 a0_4 a0_5 ji5 a0_7 a0_8 a0_9 a0_10) 25 (0, 0)) (BD BK579) hb); have n1_ := Aside0.mk (blk_below (g := gb582) (o := .cells #[.int .u32 1, .int .u32 2, .int .i64 3, .int .i64 4] 27 (0, 0)) (BD BK582) hb); have n2_ := Aside0.mk (below_step (BW HB) hb); clear BK579; clear BK582; clear HB; have BK579 := n0_; have BK582 := n1_; have HB := n2_; clear n0_ n1_ n2_; (try clear hb)))
   go_ret
   exact ⟨by first | rfl | (simp [errW_none, errW_some] <;> rfl) | (simp only [← hji5]; first | rfl | (simp [errW_none, errW_some] <;> rfl)) | (simp [*, errW_none, errW_some] <;> rfl), BW HB⟩
  rw [if_neg c16] at H
  have c16b0 : (t584 == 0) = false := beq_eq_false_iff_ne.mpr c16
  have c16b1 : (t584 != 0) = true := bne_iff_ne.mpr c16
  obtain rfl := Option.some.inj H
  go_enter Try.func8, Try.ntmps8
  go_wp2_with (first | ((with_reducible refine gate_dst (N := 2) rfl ?_); refine box_event ?hg (N := 2) ?hd (cs := (r11 a0_0 a0_1 a0_2 a0_3 a0_4 a0_5 a0_6 a0_7 a0_8 a0_9 a0_10)) (t := 25) ?hr ?_; (case hd => rfl); (case hg => rfl); (case hr => first | (go_simp; done) | (go_simp; rfl)); intro gb579 hg w31 hbox hb; have n0_ := Aside0.mk (below_step (BW HB) hb); have n1_ := Aside0.mk (hbox); have n2_ := Aside0.mk ((by rw [hg]; exact (below_size (BW HB)) : w.heap.size ≤ gb579)); have n3_ := Aside0.mk ((by rw [hg]; exact (below_size (BW HB)) : w.heap.size ≤ gb579)); clear HB; have HB := n0_; have BK579 := n1_; have GW579 := n2_; have GE579 := n3_; clear n0_ n1_ n2_ n3_; clear hb hbox hg) | ((with_reducible refine gate_callee (f := 9) rfl ?_); refine goesL_ (some 16) rfl rfl Try.func9 (by kernel_rfl) rfl #[] rfl AG ?_; (with_reducible refine (weighbridgelaw10_examples.calls  true _ A3.out).mono ?_); rintro e w32 ⟨rfl, hb⟩; (try clear A3); refine ⟨_, rfl, ?_⟩; have n0_ := Aside0.mk (blk_below (g := gb579) (o := .cells (r11 a0_0 a0_1 a0_2 a0_3 a0_4 a0_5 a0_6 a0_7 a0_8 a0_9 a0_10) 25 (0, 0)) (BD BK579) hb); have n1_ := Aside0.mk (below_step (BW HB) hb); clear BK579; clear HB; have BK579 := n0_; have HB := n1_; clear n0_ n1_; (try clear hb); obtain ⟨hcz33_0, hcz33_1, hcz33_2, hcz33_3, hcz33_4, hcz33_5, hcz33_6, hcz33_7, hcz33_8, hcz33_9, hcz33_10, hfz33_0, hfz33_1, hfz33_2, hfz33_3, hfz33_4, hfz33_5, hfz33_6, hfz33_7, hfz33_8, hfz33_9, hfz33_10⟩ := blk11 BK579.out) | ((with_reducible refine gate_callee (f := 11) rfl ?_); refine goesL_ (some 24) rfl rfl Try.func11 (by kernel_rfl) rfl #[.agg #[.int .u8 a0_0, .int .u32 a0_1, .int .u32 a0_2, .int .u16 a0_3, .int .u16 a0_4, .int .u8 a0_5, .int .u8 ji5, .string a0_7, .bool a0_8, .int .u32 a0_9, .int .u32 a0_10]] rfl (by (try simp only [List.map_toArray, List.map_cons, List.map_nil]); first | done | (simp only [hji5]; rfl) | rfl | (simp only [List.length_drop, List.length_take]; rfl)) ?_; (with_reducible refine (weighbridgelaw10_Make_frame.calls a0_0 a0_1 a0_2 a0_3 a0_4 a0_5 ji5 a0_7 a0_8 a0_9 a0_10 t581 _ A6.out).mono ?_); rintro e w34 ⟨rfl, hb⟩; (try clear A6); refine ⟨_, rfl, ?_⟩; have n0_ := Aside0.mk (blk_below (g := gb579) (o := .cells (r11 a0_0 a0_1 a0_2 a0_3 a0_4 a0_5 ji5 a0_7 a0_8 a0_9 a0_10) 25 (0, 0)) (BE BK579) hb); have n1_ := Aside0.mk (below_step (BW HB) hb); clear BK579; clear HB; have BK579 := n0_; have HB := n1_; clear n0_ n1_; (try clear hb)) | ((with_reducible refine gate_dst (N := 7) rfl ?_); refine box_event ?hg (N := 7) ?hd (cs := #[.int .u32 0, .int .u32 0, .int .i64 0, .int .i64 0]) (t := 27) ?hr ?_; (case hd => rfl); (case hg => rfl); (case hr => first | (go_simp; done) | (go_simp; rfl)); intro gb582 hg w35 hbox hb; have n0_ := Aside0.mk (blk_below (g := gb579) (o := .cells (r11 a0_0 a0_1 a0_2 a0_3 a0_4 a0_5 ji5 a0_7 a0_8 a0_9 a0_10) 25 (0, 0)) (BD BK579) hb); have n1_ := Aside0.mk (below_step (BW HB) hb); have n2_ := Aside0.mk (hbox); have n3_ := Aside0.mk ((by rw [hg]; exact (below_size (BW HB)) : w.heap.size ≤ gb582)); have n4_ := Aside0.mk ((by rw [hg]; exact (below_size (BW HB)) : w.heap.size ≤ gb582)); have n5_ := Aside0.mk ((by rw [hg]; exact Nat.ne_of_lt (blk_lt (g := gb579) (o := .cells (r11 a0_0 a0_1 a0_2 a0_3 a0_4 a0_5 ji5 a0_7 a0_8 a0_9 a0_10) 25 (0, 0)) (BD BK579)) : gb579 ≠ gb582)); have n6_ := Aside0.mk ((by rw [hg]; exact Nat.ne_of_gt (blk_lt (g := gb579) (o := .cells (r11 a0_0 a0_1 a0_2 a0_3 a0_4 a0_5 ji5 a0_7 a0_8 a0_9 a0_10) 25 (0, 0)) (BD BK579)) : gb582 ≠ gb579)); clear BK579; clear HB; have BK579 := n0_; have HB := n1_; have BK582 := n2_; have GW582 := n3_; have GE582 := n4_; have NB579_582 := n5_; have NB582_579 := n6_; clear n0_ n1_ n2_ n3_ n4_ n5_ n6_; clear hb hbox hg; have hnb36 := NB582_579.out; have hnc36 := NB579_582.out; obtain ⟨hcz37_0, hcz37_1, hcz37_2, hcz37_3, hfz37_0, hfz37_1, hfz37_2, hfz37_3⟩ := blk4 BK582.out) | ((with_reducible refine gate_callee (f := 12) rfl ?_); refine goesL_ (some 29) rfl rfl Try.func12 (by kernel_rfl) rfl #[.string t581, .agg #[.int .u32 1, .int .u32 2, .int .i64 3, .int .i64 4]] rfl AG ?_; (with_reducible refine (patch_Plain.calls t581 1 2 3 4 t583 t584 _ A7.out).mono ?_); rintro e w38 ⟨rfl, hb⟩; (try clear A7); refine ⟨_, rfl, ?_⟩; have n0_ := Aside0.mk (blk_below (g := gb579) (o := .cells (r11 a0_0 a0_1 a0_2 a0_3 a0_4 a0_5 ji5 a0_7 a0_8 a0_9 a0_10) 25 (0, 0)) (BE BK579) hb); have n1_ := Aside0.mk (blk_below (g := gb582) (o := .cells #[.int .u32 1, .int .u32 2, .int .i64 3, .int .i64 4] 27 (0, 0)) (BE BK582) hb); have n2_ := Aside0.mk (below_step (BW HB) hb); clear BK579; clear BK582; clear HB; have BK579 := n0_; have BK582 := n1_; have HB := n2_; clear n0_ n1_ n2_; (try clear hb); obtain ⟨hcz39_0, hcz39_1, hcz39_2, hcz39_3, hfz39_0, hfz39_1, hfz39_2, hfz39_3⟩ := blk4 BK582.out) | ((with_reducible refine gate_callee (f := 12) rfl ?_); refine goesL_ (some 37) rfl rfl Try.func12 (by kernel_rfl) rfl #[.string (t581 ++ a1), .agg #[.int .u32 1, .int .u32 2, .int .i64 3, .int .i64 4]] rfl AG ?_; (with_reducible refine (patch_Plain.calls (t581 ++ a1) 1 2 3 4 t585 t586 _ A9.out).mono ?_); rintro e w40 ⟨rfl, hb⟩; (try clear A9); refine ⟨_, rfl, ?_⟩; have n0_ := Aside0.mk (blk_below (g := gb579) (o := .cells (r11 a0_0 a0_1 a0_2 a0_3 a0_4 a0_5 ji5 a0_7 a0_8 a0_9 a0_10) 25 (0, 0)) (BD BK579) hb); have n1_ := Aside0.mk (blk_below (g := gb582) (o := .cells #[.int .u32 1, .int .u32 2, .int .i64 3, .int .i64 4] 27 (0, 0)) (BD BK582) hb); have n2_ := Aside0.mk (below_step (BW HB) hb); clear BK579; clear BK582; clear HB; have BK579 := n0_; have BK582 := n1_; have HB := n2_; clear n0_ n1_ n2_; (try clear hb); obtain ⟨hcz41_0, hcz41_1, hcz41_2, hcz41_3, hfz41_0, hfz41_1, hfz41_2, hfz41_3⟩ := blk4 BK582.out) | ((with_reducible refine gate_callee (f := 16) rfl ?_); refine goesL_ (some 43) rfl rfl Try.func16 (by kernel_rfl) rfl #[.string t581, .int .u32 5, .int .u32 6, .agg #[.int .u32 1, .int .u32 2, .int .i64 3, .int .i64 4]] rfl AG ?_; (with_reducible refine (patch_About.calls t581 5 6 1 2 3 4 t587 t588 _ A10.out).mono ?_); rintro e w42 ⟨rfl, hb⟩; (try clear A10); refine ⟨_, rfl, ?_⟩; have n0_ := Aside0.mk (blk_below (g := gb579) (o := .cells (r11 a0_0 a0_1 a0_2 a0_3 a0_4 a0_5 ji5 a0_7 a0_8 a0_9 a0_10) 25 (0, 0)) (BD BK579) hb); have n1_ := Aside0.mk (blk_below (g := gb582) (o := .cells #[.int .u32 1, .int .u32 2, .int .i64 3, .int .i64 4] 27 (0, 0)) (BD BK582) hb); have n2_ := Aside0.mk (below_step (BW HB) hb); clear BK579; clear BK582; clear HB; have BK579 := n0_; have BK582 := n1_; have HB := n2_; clear n0_ n1_ n2_; (try clear hb); obtain ⟨hcz43_0, hcz43_1, hcz43_2, hcz43_3, hfz43_0, hfz43_1, hfz43_2, hfz43_3⟩ := blk4 BK582.out) | ((with_reducible refine gate_callee (f := 16) rfl ?_); refine goesL_ (some 51) rfl rfl Try.func16 (by kernel_rfl) rfl #[.string (t581 ++ a1), .int .u32 5, .int .u32 6, .agg #[.int .u32 1, .int .u32 2, .int .i64 3, .int .i64 4]] rfl AG ?_; (with_reducible refine (patch_About.calls (t581 ++ a1) 5 6 1 2 3 4 t589 t590 _ A11.out).mono ?_); rintro e w44 ⟨rfl, hb⟩; (try clear A11); refine ⟨_, rfl, ?_⟩; have n0_ := Aside0.mk (blk_below (g := gb579) (o := .cells (r11 a0_0 a0_1 a0_2 a0_3 a0_4 a0_5 ji5 a0_7 a0_8 a0_9 a0_10) 25 (0, 0)) (BD BK579) hb); have n1_ := Aside0.mk (blk_below (g := gb582) (o := .cells #[.int .u32 1, .int .u32 2, .int .i64 3, .int .i64 4] 27 (0, 0)) (BD BK582) hb); have n2_ := Aside0.mk (below_step (BW HB) hb); clear BK579; clear BK582; clear HB; have BK579 := n0_; have BK582 := n1_; have HB := n2_; clear n0_ n1_ n2_; (try clear hb)))
  go_ret
  exact ⟨by first | rfl | (simp [errW_none, errW_some] <;> rfl) | (simp only [← hji5]; first | rfl | (simp [errW_none, errW_some] <;> rfl)) | (simp [*, errW_none, errW_some] <;> rfl), BW HB⟩
 rw [if_neg c15] at H
 have c15b0 : (t588 == t590) = false := beq_eq_false_iff_ne.mpr c15
 have c15b1 : (t588 != t590) = true := bne_iff_ne.mpr c15
 exact absurd ((Option.some.inj H).trans hr_) (by decide)

/-- THE ONE PURE STATEMENT of weighbridgelaw10_PatchPads: yours. -/
def weighbridgelaw10_PatchPads.Pure : Prop := ∀ (a0_0 : Int) (a0_1 : Int) (a0_2 : Int) (a0_3 : Int) (a0_4 : Int) (a0_5 : Int) (a0_6 : Int) (a0_7 : ByteArray) (a0_8 : Bool) (a0_9 : Int) (a0_10 : Int) (a1 : ByteArray), (Lit.int .u8 a0_0).wf = true → (Lit.int .u32 a0_1).wf = true → (Lit.int .u32 a0_2).wf = true → (Lit.int .u16 a0_3).wf = true → (Lit.int .u16 a0_4).wf = true → (Lit.int .u8 a0_5).wf = true → (Lit.int .u8 a0_6).wf = true → a0_7.size ≤ 140737488351232 → (Lit.int .u32 a0_9).wf = true → (Lit.int .u32 a0_10).wf = true → a1.size ≤ 140737488351232 → weighbridgelaw10_PatchPads.f a0_0 a0_1 a0_2 a0_3 a0_4 a0_5 a0_6 a0_7 a0_8 a0_9 a0_10 a1 = some true
theorem weighbridgelaw10_PatchPads.walk (P : weighbridgelaw10_PatchPads.Pure) (a0_0 : Int) (a0_1 : Int) (a0_2 : Int) (a0_3 : Int) (a0_4 : Int) (a0_5 : Int) (a0_6 : Int) (a0_7 : ByteArray) (a0_8 : Bool) (a0_9 : Int) (a0_10 : Int) (a1 : ByteArray) (w : World) (w0_0 : (Lit.int .u8 a0_0).wf = true) (w0_1 : (Lit.int .u32 a0_1).wf = true) (w0_2 : (Lit.int .u32 a0_2).wf = true) (w0_3 : (Lit.int .u16 a0_3).wf = true) (w0_4 : (Lit.int .u16 a0_4).wf = true) (w0_5 : (Lit.int .u8 a0_5).wf = true) (w0_6 : (Lit.int .u8 a0_6).wf = true) (w0_7 : a0_7.size ≤ 140737488351232) (w0_9 : (Lit.int .u32 a0_9).wf = true) (w0_10 : (Lit.int .u32 a0_10).wf = true) (w1 : a1.size ≤ 140737488351232) :
  Calls Try.prog 8 #[.agg #[.int .u8 a0_0, .int .u32 a0_1, .int .u32 a0_2, .int .u16 a0_3, .int .u16 a0_4, .int .u8 a0_5, .int .u8 a0_6, .string a0_7, .bool a0_8, .int .u32 a0_9, .int .u32 a0_10], .string a1] w fun e w' => e = .returned (.bool true) ∧ Below w.heap.size w w' := by
 have h := P a0_0 a0_1 a0_2 a0_3 a0_4 a0_5 a0_6 a0_7 a0_8 a0_9 a0_10 a1 w0_0 w0_1 w0_2 w0_3 w0_4 w0_5 w0_6 w0_7 w0_9 w0_10 w1
 refine (weighbridgelaw10_PatchPads.calls a0_0 a0_1 a0_2 a0_3 a0_4 a0_5 a0_6 a0_7 a0_8 a0_9 a0_10 a1 true w h rfl).mono ?_
 rintro e w' ⟨rfl, hd⟩
 exact ⟨rfl, hd⟩
end Go.Proofs.Ytfnjohklmpiboaa.Pr
