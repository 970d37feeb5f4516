-- Written by a program of the session (wip/tools) out of the translation, over the kit's print; with pieces of the session's own.
import Derived.Test.YtfnjohklmpiboaaPr0
import Derived.Test.YtfnjohklmpiboaaPr9
import Derived.Test.YtfnjohklmpiboaaPr19
namespace Go.Proofs.Ytfnjohklmpiboaa.Pr
open Go.RowKit Go.Proofs.YtfnjohklmpiboaaW.PrintWords Go.Proofs.YtfnjohklmpiboaaW.PrintLast Go.Proofs.YtfnjohklmpiboaaW.PrintMore
attribute [local go_sem] max2_int min2_int max_two min_two max_three min_three max_four min_four   -- for this text's walks alone
set_option linter.unusedVariables false
set_option linter.unusedSimpArgs false
open Go.Proofs.Ytfnjohklmpiboaa.Sp
/-! ### weighbridgelaw10_PatchRefuses: function 7 -/
def weighbridgelaw10_PatchRefuses.f (a0_0 : Int) (a0_1 : Int) (a0_2 : Int) (a0_3 : Int) (a0_4 : Int) (a0_5 : Int) (a0_6 : Int) (a0_7 : ByteArray) (a0_8 : Bool) (a0_9 : Int) (a0_10 : Int) (a1 : Int) (a2 : Int) : Option (Bool) := (weighbridgelaw10_examples.f).bind fun t567 => (if t567 = true then ((weighbridgelaw10_Make_frame.f a0_0 a0_1 a0_2 a0_3 a0_4 a0_5 (Int.tmod a1 6) a0_7 a0_8 a0_9 a0_10).bind fun t568 => ((patch_Plain.f t568 1 2 3 4).bind fun bt571 => ((patch_About.f t568 1 2 1 2 3 4).bind fun bt573 => ((patch_Plain.f t568 1 2 3 a2).bind fun bt575 => ((patch_About.f t568 1 2 1 2 3 a2).bind fun bt577 => (if (Int.tmod a1 6) < 2 then (if a2 < 0 then (if (Int.tmod a0_0 4) < 2 then (if bt571.2 = 11 then (if bt573.2 = 1 then (if bt575.2 = 1 then (some (bt577.2 == 1)) else (some false)) else (some false)) else (some false)) else (if bt573.2 = 11 then (if bt571.2 = 1 then (if bt577.2 = 1 then (some (bt575.2 == 1)) else (some false)) else (some false)) else (some false))) else (if (Int.tmod a0_0 4) < 2 then (if bt571.2 = 11 then (if bt573.2 = 1 then (if a2 > 65535 then (if bt575.2 = 1 then (some (bt577.2 == 1)) else (some false)) else (if bt575.2 = 11 then (some (bt577.2 == 1)) else (some false))) else (some false)) else (some false)) else (if bt573.2 = 11 then (if bt571.2 = 1 then (if a2 > 65535 then (if bt577.2 = 1 then (some (bt575.2 == 1)) else (some false)) else (if bt577.2 = 11 then (some (bt575.2 == 1)) else (some false))) else (some false)) else (some false)))) else (if a2 < 0 then (if (Int.tmod a0_0 4) < 2 then (if bt571.2 = 0 then (if bt573.2 = 1 then (if bt575.2 = 1 then (some (bt577.2 == 1)) else (some false)) else (some false)) else (some false)) else (if bt573.2 = 0 then (if bt571.2 = 1 then (if bt577.2 = 1 then (some (bt575.2 == 1)) else (some false)) else (some false)) else (some false))) else (if (Int.tmod a0_0 4) < 2 then (if bt571.2 = 0 then (if bt573.2 = 1 then (if a2 > 65535 then (if bt575.2 = 1 then (some (bt577.2 == 1)) else (some false)) else (if bt575.2 = 0 then (some (bt577.2 == 1)) else (some false))) else (some false)) else (some false)) else (if bt573.2 = 0 then (if bt571.2 = 1 then (if a2 > 65535 then (if bt577.2 = 1 then (some (bt575.2 == 1)) else (some false)) else (if bt577.2 = 0 then (some (bt575.2 == 1)) else (some false))) else (some false)) else (some false)))))))))) else (some false))
set_option maxHeartbeats 8000000 in
set_option maxRecDepth 100000 in
theorem weighbridgelaw10_PatchRefuses.callsT (a0_0 : Int) (a0_1 : Int) (a0_2 : Int) (a0_3 : Int) (a0_4 : Int) (a0_5 : Int) (a0_6 : Int) (a0_7 : ByteArray) (a0_8 : Bool) (a0_9 : Int) (a0_10 : Int) (a1 : Int) (a2 : Int) (r : Bool) (w : World) (h : weighbridgelaw10_PatchRefuses.f a0_0 a0_1 a0_2 a0_3 a0_4 a0_5 a0_6 a0_7 a0_8 a0_9 a0_10 a1 a2 = some r) (hr_ : r = true) (hc0_ : (Int.tmod a1 6) < 2) :
  Calls Try.prog 7 #[.agg #[.int .u8 a0_0, .int .u32 a0_1, .int .u32 a0_2, .int .u16 a0_3, .int .u16 a0_4, .int .u8 a0_5, .int .u8 a0_6, .string a0_7, .bool a0_8, .int .u32 a0_9, .int .u32 a0_10], .int .u8 a1, .int .i64 a2] w fun e w' => e = .returned (.bool r) ∧ Below w.heap.size w w' := by
 have hcA0_ := Aside0.mk hc0_
 clear hc0_
 have hu25 := Try.underlying25
 have hu27 := Try.underlying27
 have HB := Aside0.mk (Below.refl w.heap.size w)
 have H := h
 unfold weighbridgelaw10_PatchRefuses.f at H
 clear h
 replace H := Option.bind_eq_some_iff.mp H
 obtain ⟨t567, A40, H⟩ := H
 (try set_option simprocs false in dsimp only at H)
 have A4 := Aside0.mk A40
 clear A40
 by_cases c5 : t567 = true
 rotate_left
 ·replace c5 := Bool.eq_false_iff.mpr c5
  subst c5
  have H1 : (some false) = some r := by rw [if_neg (show ¬ (false = true) by decide)] at H; exact H
  clear H
  have H := H1
  clear H1
  exact absurd ((Option.some.inj H).trans hr_) (by decide)
 subst c5
 first | rw [if_pos rfl] at H | rw [if_pos trivial] at H
 replace H := Option.bind_eq_some_iff.mp H
 obtain ⟨t568, A60, H⟩ := H
 (try set_option simprocs false in dsimp only at H)
 have A6 := Aside0.mk A60
 clear A60
 replace H := Option.bind_eq_some_iff.mp H
 obtain ⟨⟨t571, t572⟩, A70, H⟩ := H
 (try set_option simprocs false in dsimp only at H)
 have A7 := Aside0.mk A70
 clear A70
 replace H := Option.bind_eq_some_iff.mp H
 obtain ⟨⟨t573, t574⟩, A80, H⟩ := H
 (try set_option simprocs false in dsimp only at H)
 have A8 := Aside0.mk A80
 clear A80
 replace H := Option.bind_eq_some_iff.mp H
 obtain ⟨⟨t575, t576⟩, A90, H⟩ := H
 (try set_option simprocs false in dsimp only at H)
 have A9 := Aside0.mk A90
 clear A90
 replace H := Option.bind_eq_some_iff.mp H
 obtain ⟨⟨t577, t578⟩, A100, H⟩ := H
 (try set_option simprocs false in dsimp only at H)
 have A10 := Aside0.mk A100
 clear A100
 go_enter Try.func7, Try.ntmps7
 go_upto_region 14 with (first | ((with_reducible refine gate_dst (N := 3) rfl ?_); refine box_event ?hg (N := 3) ?hd (cs := (r11 a0_0 a0_1 a0_2 a0_3 a0_4 a0_5 a0_6 a0_7 a0_8 a0_9 a0_10)) (t := 25) ?hr ?_; (case hd => rfl); (case hg => rfl); (case hr => first | (go_simp; done) | (go_simp; rfl)); intro gb566 hg w17 hbox hb; have n0_ := Aside0.mk (below_step (BW HB) hb); have n1_ := Aside0.mk (hbox); have n2_ := Aside0.mk ((by rw [hg]; exact (below_size (BW HB)) : w.heap.size ≤ gb566)); have n3_ := Aside0.mk ((by rw [hg]; exact (below_size (BW HB)) : w.heap.size ≤ gb566)); clear HB; have HB := n0_; have BK566 := n1_; have GW566 := n2_; have GE566 := n3_; clear n0_ n1_ n2_ n3_; clear hb hbox hg) | ((with_reducible refine gate_callee (f := 9) rfl ?_); refine goesL_ (some 21) rfl rfl Try.func9 (by kernel_rfl) rfl #[] rfl AG ?_; (with_reducible refine (weighbridgelaw10_examples.calls  true _ A4.out).mono ?_); rintro e w18 ⟨rfl, hb⟩; (try clear A4); refine ⟨_, rfl, ?_⟩; have n0_ := Aside0.mk (blk_below (g := gb566) (o := .cells (r11 a0_0 a0_1 a0_2 a0_3 a0_4 a0_5 a0_6 a0_7 a0_8 a0_9 a0_10) 25 (0, 0)) (BD BK566) hb); have n1_ := Aside0.mk (below_step (BW HB) hb); clear BK566; clear HB; have BK566 := n0_; have HB := n1_; clear n0_ n1_; (try clear hb); obtain ⟨hcz19_0, hcz19_1, hcz19_2, hcz19_3, hcz19_4, hcz19_5, hcz19_6, hcz19_7, hcz19_8, hcz19_9, hcz19_10, hfz19_0, hfz19_1, hfz19_2, hfz19_3, hfz19_4, hfz19_5, hfz19_6, hfz19_7, hfz19_8, hfz19_9, hfz19_10⟩ := blk11 BK566.out) | ((with_reducible refine gate_callee (f := 11) rfl ?_); refine goesL_ (some 28) rfl rfl Try.func11 (by kernel_rfl) rfl #[.agg #[.int .u8 a0_0, .int .u32 a0_1, .int .u32 a0_2, .int .u16 a0_3, .int .u16 a0_4, .int .u8 a0_5, .int .u8 (Int.tmod a1 6), .string a0_7, .bool a0_8, .int .u32 a0_9, .int .u32 a0_10]] rfl AG ?_; (with_reducible refine (weighbridgelaw10_Make_frame.calls a0_0 a0_1 a0_2 a0_3 a0_4 a0_5 (Int.tmod a1 6) a0_7 a0_8 a0_9 a0_10 t568 _ A6.out).mono ?_); rintro e w20 ⟨rfl, hb⟩; (try clear A6); refine ⟨_, rfl, ?_⟩; have n0_ := Aside0.mk (blk_below (g := gb566) (o := .cells (r11 a0_0 a0_1 a0_2 a0_3 a0_4 a0_5 (Int.tmod a1 6) a0_7 a0_8 a0_9 a0_10) 25 (0, 0)) (BE BK566) hb); have n1_ := Aside0.mk (below_step (BW HB) hb); clear BK566; clear HB; have BK566 := n0_; have HB := n1_; clear n0_ n1_; (try clear hb)) | ((with_reducible refine gate_dst (N := 9) rfl ?_); refine box_event ?hg (N := 9) ?hd (cs := #[.int .u32 0, .int .u32 0, .int .i64 0, .int .i64 0]) (t := 27) ?hr ?_; (case hd => rfl); (case hg => rfl); (case hr => first | (go_simp; done) | (go_simp; rfl)); intro gb569 hg w21 hbox hb; have n0_ := Aside0.mk (blk_below (g := gb566) (o := .cells (r11 a0_0 a0_1 a0_2 a0_3 a0_4 a0_5 (Int.tmod a1 6) a0_7 a0_8 a0_9 a0_10) 25 (0, 0)) (BD BK566) hb); have n1_ := Aside0.mk (below_step (BW HB) hb); have n2_ := Aside0.mk (hbox); have n3_ := Aside0.mk ((by rw [hg]; exact (below_size (BW HB)) : w.heap.size ≤ gb569)); have n4_ := Aside0.mk ((by rw [hg]; exact (below_size (BW HB)) : w.heap.size ≤ gb569)); have n5_ := Aside0.mk ((by rw [hg]; exact Nat.ne_of_lt (blk_lt (g := gb566) (o := .cells (r11 a0_0 a0_1 a0_2 a0_3 a0_4 a0_5 (Int.tmod a1 6) a0_7 a0_8 a0_9 a0_10) 25 (0, 0)) (BD BK566)) : gb566 ≠ gb569)); have n6_ := Aside0.mk ((by rw [hg]; exact Nat.ne_of_gt (blk_lt (g := gb566) (o := .cells (r11 a0_0 a0_1 a0_2 a0_3 a0_4 a0_5 (Int.tmod a1 6) a0_7 a0_8 a0_9 a0_10) 25 (0, 0)) (BD BK566)) : gb569 ≠ gb566)); clear BK566; clear HB; have BK566 := n0_; have HB := n1_; have BK569 := n2_; have GW569 := n3_; have GE569 := n4_; have NB566_569 := n5_; have NB569_566 := n6_; clear n0_ n1_ n2_ n3_ n4_ n5_ n6_; clear hb hbox hg; have hnb22 := NB569_566.out; have hnc22 := NB566_569.out; obtain ⟨hcz23_0, hcz23_1, hcz23_2, hcz23_3, hfz23_0, hfz23_1, hfz23_2, hfz23_3⟩ := blk4 BK569.out) | ((with_reducible refine gate_dst (N := 10) rfl ?_); refine box_event ?hg (N := 10) ?hd (cs := #[.int .u32 0, .int .u32 0, .int .i64 0, .int .i64 0]) (t := 27) ?hr ?_; (case hd => rfl); (case hg => rfl); (case hr => first | (go_simp; done) | (go_simp; rfl)); intro gb570 hg w24 hbox hb; have n0_ := Aside0.mk (blk_below (g := gb566) (o := .cells (r11 a0_0 a0_1 a0_2 a0_3 a0_4 a0_5 (Int.tmod a1 6) a0_7 a0_8 a0_9 a0_10) 25 (0, 0)) (BE BK566) hb); have n1_ := Aside0.mk (blk_below (g := gb569) (o := .cells #[.int .u32 1, .int .u32 2, .int .i64 3, .int .i64 4] 27 (0, 0)) (BE BK569) hb); have n2_ := Aside0.mk (below_step (BW HB) hb); have n3_ := Aside0.mk (hbox); have n4_ := Aside0.mk ((by rw [hg]; exact (below_size (BW HB)) : w.heap.size ≤ gb570)); have n5_ := Aside0.mk ((by rw [hg]; exact (below_size (BW HB)) : w.heap.size ≤ gb570)); have n6_ := Aside0.mk ((by rw [hg]; exact Nat.ne_of_lt (blk_lt (g := gb566) (o := .cells (r11 a0_0 a0_1 a0_2 a0_3 a0_4 a0_5 (Int.tmod a1 6) a0_7 a0_8 a0_9 a0_10) 25 (0, 0)) (BE BK566)) : gb566 ≠ gb570)); have n7_ := Aside0.mk ((by rw [hg]; exact Nat.ne_of_gt (blk_lt (g := gb566) (o := .cells (r11 a0_0 a0_1 a0_2 a0_3 a0_4 a0_5 (Int.tmod a1 6) a0_7 a0_8 a0_9 a0_10) 25 (0, 0)) (BE BK566)) : gb570 ≠ gb566)); have n8_ := Aside0.mk ((by rw [hg]; exact Nat.ne_of_lt (blk_lt (g := gb569) (o := .cells #[.int .u32 1, .int .u32 2, .int .i64 3, .int .i64 4] 27 (0, 0)) (BE BK569)) : gb569 ≠ gb570)); have n9_ := Aside0.mk ((by rw [hg]; exact Nat.ne_of_gt (blk_lt (g := gb569) (o := .cells #[.int .u32 1, .int .u32 2, .int .i64 3, .int .i64 4] 27 (0, 0)) (BE BK569)) : gb570 ≠ gb569)); clear BK566; clear BK569; clear HB; have BK566 := n0_; have BK569 := n1_; have HB := n2_; have BK570 := n3_; have GW570 := n4_; have GE570 := n5_; have NB566_570 := n6_; have NB570_566 := n7_; have NB569_570 := n8_; have NB570_569 := n9_; clear n0_ n1_ n2_ n3_ n4_ n5_ n6_ n7_ n8_ n9_; clear hb hbox hg; have hnb25 := NB570_566.out; have hnc25 := NB566_570.out; have hnb26 := NB570_569.out; have hnc26 := NB569_570.out; obtain ⟨hcz27_0, hcz27_1, hcz27_2, hcz27_3, hfz27_0, hfz27_1, hfz27_2, hfz27_3⟩ := blk4 BK570.out; obtain ⟨hcz28_0, hcz28_1, hcz28_2, hcz28_3, hfz28_0, hfz28_1, hfz28_2, hfz28_3⟩ := blk4 BK569.out) | ((with_reducible refine gate_callee (f := 12) rfl ?_); refine goesL_ (some 36) rfl rfl Try.func12 (by kernel_rfl) rfl #[.string t568, .agg #[.int .u32 1, .int .u32 2, .int .i64 3, .int .i64 4]] rfl AG ?_; (with_reducible refine (patch_Plain.calls t568 1 2 3 4 t571 t572 _ A7.out).mono ?_); rintro e w29 ⟨rfl, hb⟩; (try clear A7); refine ⟨_, rfl, ?_⟩; have n0_ := Aside0.mk (blk_below (g := gb566) (o := .cells (r11 a0_0 a0_1 a0_2 a0_3 a0_4 a0_5 (Int.tmod a1 6) a0_7 a0_8 a0_9 a0_10) 25 (0, 0)) (BE BK566) hb); have n1_ := Aside0.mk (blk_below (g := gb569) (o := .cells #[.int .u32 1, .int .u32 2, .int .i64 3, .int .i64 4] 27 (0, 0)) (BE BK569) hb); have n2_ := Aside0.mk (blk_below (g := gb570) (o := .cells #[.int .u32 1, .int .u32 2, .int .i64 3, .int .i64 a2] 27 (0, 0)) (BE BK570) hb); have n3_ := Aside0.mk (below_step (BW HB) hb); clear BK566; clear BK569; clear BK570; clear HB; have BK566 := n0_; have BK569 := n1_; have BK570 := n2_; have HB := n3_; clear n0_ n1_ n2_ n3_; (try clear hb); obtain ⟨hcz30_0, hcz30_1, hcz30_2, hcz30_3, hfz30_0, hfz30_1, hfz30_2, hfz30_3⟩ := blk4 BK569.out) | ((with_reducible refine gate_callee (f := 16) rfl ?_); refine goesL_ (some 42) rfl rfl Try.func16 (by kernel_rfl) rfl #[.string t568, .int .u32 1, .int .u32 2, .agg #[.int .u32 1, .int .u32 2, .int .i64 3, .int .i64 4]] rfl AG ?_; (with_reducible refine (patch_About.calls t568 1 2 1 2 3 4 t573 t574 _ A8.out).mono ?_); rintro e w31 ⟨rfl, hb⟩; (try clear A8); refine ⟨_, rfl, ?_⟩; have n0_ := Aside0.mk (blk_below (g := gb566) (o := .cells (r11 a0_0 a0_1 a0_2 a0_3 a0_4 a0_5 (Int.tmod a1 6) a0_7 a0_8 a0_9 a0_10) 25 (0, 0)) (BD BK566) hb); have n1_ := Aside0.mk (blk_below (g := gb569) (o := .cells #[.int .u32 1, .int .u32 2, .int .i64 3, .int .i64 4] 27 (0, 0)) (BD BK569) hb); have n2_ := Aside0.mk (blk_below (g := gb570) (o := .cells #[.int .u32 1, .int .u32 2, .int .i64 3, .int .i64 a2] 27 (0, 0)) (BD BK570) hb); have n3_ := Aside0.mk (below_step (BW HB) hb); clear BK566; clear BK569; clear BK570; clear HB; have BK566 := n0_; have BK569 := n1_; have BK570 := n2_; have HB := n3_; clear n0_ n1_ n2_ n3_; (try clear hb); obtain ⟨hcz32_0, hcz32_1, hcz32_2, hcz32_3, hfz32_0, hfz32_1, hfz32_2, hfz32_3⟩ := blk4 BK570.out) | ((with_reducible refine gate_callee (f := 12) rfl ?_); refine goesL_ (some 48) rfl rfl Try.func12 (by kernel_rfl) rfl #[.string t568, .agg #[.int .u32 1, .int .u32 2, .int .i64 3, .int .i64 a2]] rfl AG ?_; (with_reducible refine (patch_Plain.calls t568 1 2 3 a2 t575 t576 _ A9.out).mono ?_); rintro e w33 ⟨rfl, hb⟩; (try clear A9); refine ⟨_, rfl, ?_⟩; have n0_ := Aside0.mk (blk_below (g := gb566) (o := .cells (r11 a0_0 a0_1 a0_2 a0_3 a0_4 a0_5 (Int.tmod a1 6) a0_7 a0_8 a0_9 a0_10) 25 (0, 0)) (BD BK566) hb); have n1_ := Aside0.mk (blk_below (g := gb569) (o := .cells #[.int .u32 1, .int .u32 2, .int .i64 3, .int .i64 4] 27 (0, 0)) (BD BK569) hb); have n2_ := Aside0.mk (blk_below (g := gb570) (o := .cells #[.int .u32 1, .int .u32 2, .int .i64 3, .int .i64 a2] 27 (0, 0)) (BD BK570) hb); have n3_ := Aside0.mk (below_step (BW HB) hb); clear BK566; clear BK569; clear BK570; clear HB; have BK566 := n0_; have BK569 := n1_; have BK570 := n2_; have HB := n3_; clear n0_ n1_ n2_ n3_; (try clear hb); obtain ⟨hcz34_0, hcz34_1, hcz34_2, hcz34_3, hfz34_0, hfz34_1, hfz34_2, hfz34_3⟩ := blk4 BK570.out) | ((with_reducible refine gate_callee (f := 16) rfl ?_); refine goesL_ (some 54) rfl rfl Try.func16 (by kernel_rfl) rfl #[.string t568, .int .u32 1, .int .u32 2, .agg #[.int .u32 1, .int .u32 2, .int .i64 3, .int .i64 a2]] rfl AG ?_; (with_reducible refine (patch_About.calls t568 1 2 1 2 3 a2 t577 t578 _ A10.out).mono ?_); rintro e w35 ⟨rfl, hb⟩; (try clear A10); refine ⟨_, rfl, ?_⟩; have n0_ := Aside0.mk (blk_below (g := gb566) (o := .cells (r11 a0_0 a0_1 a0_2 a0_3 a0_4 a0_5 (Int.tmod a1 6) a0_7 a0_8 a0_9 a0_10) 25 (0, 0)) (BD BK566) hb); have n1_ := Aside0.mk (blk_below (g := gb569) (o := .cells #[.int .u32 1, .int .u32 2, .int .i64 3, .int .i64 4] 27 (0, 0)) (BD BK569) hb); have n2_ := Aside0.mk (blk_below (g := gb570) (o := .cells #[.int .u32 1, .int .u32 2, .int .i64 3, .int .i64 a2] 27 (0, 0)) (BD BK570) hb); have n3_ := Aside0.mk (below_step (BW HB) hb); clear BK566; clear BK569; clear BK570; clear HB; have BK566 := n0_; have BK569 := n1_; have BK570 := n2_; have HB := n3_; clear n0_ n1_ n2_ n3_; (try clear hb); obtain ⟨hcz36_0, hcz36_1, hcz36_2, hcz36_3, hcz36_4, hcz36_5, hcz36_6, hcz36_7, hcz36_8, hcz36_9, hcz36_10, hfz36_0, hfz36_1, hfz36_2, hfz36_3, hfz36_4, hfz36_5, hfz36_6, hfz36_7, hfz36_8, hfz36_9, hfz36_10⟩ := blk11 BK566.out))
 by_cases c11 : (Int.tmod a1 6) < 2
 rotate_left
 ·exact absurd hcA0_.out c11
 rw [if_pos c11] at H
 have c11b0 : decide ((Int.tmod a1 6) < 2) = true := decide_eq_true c11
 clear c11
 by_cases c12 : a2 < 0
 ·rw [if_pos c12] at H
  have c12b0 : decide (a2 < 0) = true := decide_eq_true c12
  clear c12
  by_cases c13 : (Int.tmod a0_0 4) < 2
  ·rw [if_pos c13] at H
   have c13b0 : decide ((Int.tmod a0_0 4) < 2) = true := decide_eq_true c13
   clear c13
   by_cases c14 : t572 = 11
   rotate_left
   ·rw [if_neg c14] at H
    have c14b0 : (t572 == 11) = false := beq_eq_false_iff_ne.mpr c14
    have c14b1 : (t572 != 11) = true := bne_iff_ne.mpr c14
    exact absurd ((Option.some.inj H).trans hr_) (by decide)
   rw [if_pos c14] at H
   have c14b0 : (t572 == 11) = true := beq_iff_eq.mpr c14
   have c14b1 : (t572 != 11) = false := bne_eq_false_iff_eq.mpr c14
   clear c14
   by_cases c15 : t574 = 1
   ·rw [if_pos c15] at H
    have c15b0 : (t574 == 1) = true := beq_iff_eq.mpr c15
    have c15b1 : (t574 != 1) = false := bne_eq_false_iff_eq.mpr c15
    clear c15
    by_cases c16 : t576 = 1
    ·rw [if_pos c16] at H
     have c16b0 : (t576 == 1) = true := beq_iff_eq.mpr c16
     have c16b1 : (t576 != 1) = false := bne_eq_false_iff_eq.mpr c16
     clear c16
     obtain rfl := Option.some.inj H
     go_wp2_with (fail)
     go_ret
     exact ⟨RT, BW HB⟩
    rw [if_neg c16] at H
    have c16b0 : (t576 == 1) = false := beq_eq_false_iff_ne.mpr c16
    have c16b1 : (t576 != 1) = true := bne_iff_ne.mpr c16
    exact absurd ((Option.some.inj H).trans hr_) (by decide)
   rw [if_neg c15] at H
   have c15b0 : (t574 == 1) = false := beq_eq_false_iff_ne.mpr c15
   have c15b1 : (t574 != 1) = true := bne_iff_ne.mpr c15
   exact absurd ((Option.some.inj H).trans hr_) (by decide)
  rw [if_neg c13] at H
  have c13b0 : decide ((Int.tmod a0_0 4) < 2) = false := decide_eq_false c13
  clear c13
  by_cases c37 : t574 = 11
  rotate_left
  ·rw [if_neg c37] at H
   have c37b0 : (t574 == 11) = false := beq_eq_false_iff_ne.mpr c37
   have c37b1 : (t574 != 11) = true := bne_iff_ne.mpr c37
   exact absurd ((Option.some.inj H).trans hr_) (by decide)
  rw [if_pos c37] at H
  have c37b0 : (t574 == 11) = true := beq_iff_eq.mpr c37
  have c37b1 : (t574 != 11) = false := bne_eq_false_iff_eq.mpr c37
  clear c37
  by_cases c38 : t572 = 1
  ·rw [if_pos c38] at H
   have c38b0 : (t572 == 1) = true := beq_iff_eq.mpr c38
   have c38b1 : (t572 != 1) = false := bne_eq_false_iff_eq.mpr c38
   clear c38
   by_cases c39 : t578 = 1
   ·rw [if_pos c39] at H
    have c39b0 : (t578 == 1) = true := beq_iff_eq.mpr c39
    have c39b1 : (t578 != 1) = false := bne_eq_false_iff_eq.mpr c39
    clear c39
    obtain rfl := Option.some.inj H
    go_wp2_with (fail)
    go_ret
    exact ⟨RT, BW HB⟩
   rw [if_neg c39] at H
   have c39b0 : (t578 == 1) = false := beq_eq_false_iff_ne.mpr c39
   have c39b1 : (t578 != 1) = true := bne_iff_ne.mpr c39
   exact absurd ((Option.some.inj H).trans hr_) (by decide)
  rw [if_neg c38] at H
  have c38b0 : (t572 == 1) = false := beq_eq_false_iff_ne.mpr c38
  have c38b1 : (t572 != 1) = true := bne_iff_ne.mpr c38
  exact absurd ((Option.some.inj H).trans hr_) (by decide)
 rw [if_neg c12] at H
 have c12b0 : decide (a2 < 0) = false := decide_eq_false c12
 clear c12
 by_cases c60 : (Int.tmod a0_0 4) < 2
 ·rw [if_pos c60] at H
  have c60b0 : decide ((Int.tmod a0_0 4) < 2) = true := decide_eq_true c60
  clear c60
  by_cases c61 : t572 = 11
  rotate_left
  ·rw [if_neg c61] at H
   have c61b0 : (t572 == 11) = false := beq_eq_false_iff_ne.mpr c61
   have c61b1 : (t572 != 11) = true := bne_iff_ne.mpr c61
   exact absurd ((Option.some.inj H).trans hr_) (by decide)
  rw [if_pos c61] at H
  have c61b0 : (t572 == 11) = true := beq_iff_eq.mpr c61
  have c61b1 : (t572 != 11) = false := bne_eq_false_iff_eq.mpr c61
  clear c61
  by_cases c62 : t574 = 1
  rotate_left
  ·rw [if_neg c62] at H
   have c62b0 : (t574 == 1) = false := beq_eq_false_iff_ne.mpr c62
   have c62b1 : (t574 != 1) = true := bne_iff_ne.mpr c62
   exact absurd ((Option.some.inj H).trans hr_) (by decide)
  rw [if_pos c62] at H
  have c62b0 : (t574 == 1) = true := beq_iff_eq.mpr c62
  have c62b1 : (t574 != 1) = false := bne_eq_false_iff_eq.mpr c62
  clear c62
  by_cases c63 : a2 > 65535
  ·rw [if_pos c63] at H
   have c63b0 : decide (65535 < a2) = true := decide_eq_true c63
   clear c63
   by_cases c64 : t576 = 1
   ·rw [if_pos c64] at H
    have c64b0 : (t576 == 1) = true := beq_iff_eq.mpr c64
    have c64b1 : (t576 != 1) = false := bne_eq_false_iff_eq.mpr c64
    clear c64
    obtain rfl := Option.some.inj H
    go_wp2_with (fail)
    go_ret
    exact ⟨RT, BW HB⟩
   rw [if_neg c64] at H
   have c64b0 : (t576 == 1) = false := beq_eq_false_iff_ne.mpr c64
   have c64b1 : (t576 != 1) = true := bne_iff_ne.mpr c64
   exact absurd ((Option.some.inj H).trans hr_) (by decide)
  rw [if_neg c63] at H
  have c63b0 : decide (65535 < a2) = false := decide_eq_false c63
  clear c63
  by_cases c85 : t576 = 11
  ·rw [if_pos c85] at H
   have c85b0 : (t576 == 11) = true := beq_iff_eq.mpr c85
   have c85b1 : (t576 != 11) = false := bne_eq_false_iff_eq.mpr c85
   clear c85
   obtain rfl := Option.some.inj H
   go_wp2_with (fail)
   go_ret
   exact ⟨RT, BW HB⟩
  rw [if_neg c85] at H
  have c85b0 : (t576 == 11) = false := beq_eq_false_iff_ne.mpr c85
  have c85b1 : (t576 != 11) = true := bne_iff_ne.mpr c85
  exact absurd ((Option.some.inj H).trans hr_) (by decide)
 rw [if_neg c60] at H
 have c60b0 : decide ((Int.tmod a0_0 4) < 2) = false := decide_eq_false c60
 clear c60
 by_cases c106 : t574 = 11
 rotate_left
 ·rw [if_neg c106] at H
  have c106b0 : (t574 == 11) = false := beq_eq_false_iff_ne.mpr c106
  have c106b1 : (t574 != 11) = true := bne_iff_ne.mpr c106
  exact absurd ((Option.some.inj H).trans hr_) (by decide)
 rw [if_pos c106] at H
 have c106b0 : (t574 == 11) = true := beq_iff_eq.mpr c106
 have c106b1 : (t574 != 11) = false := bne_eq_false_iff_eq.mpr c106
 clear c106
 by_cases c107 : t572 = 1
 rotate_left
 ·rw [if_neg c107] at H
  have c107b0 : (t572 == 1) = false := beq_eq_false_iff_ne.mpr c107
  have c107b1 : (t572 != 1) = true := bne_iff_ne.mpr c107
  exact absurd ((Option.some.inj H).trans hr_) (by decide)
 rw [if_pos c107] at H
 have c107b0 : (t572 == 1) = true := beq_iff_eq.mpr c107
 have c107b1 : (t572 != 1) = false := bne_eq_false_iff_eq.mpr c107
 clear c107
 by_cases c108 : a2 > 65535
 ·rw [if_pos c108] at H
  have c108b0 : decide (65535 < a2) = true := decide_eq_true c108
  clear c108
  by_cases c109 : t578 = 1
  ·rw [if_pos c109] at H
   have c109b0 : (t578 == 1) = true := beq_iff_eq.mpr c109
   have c109b1 : (t578 != 1) = false := bne_eq_false_iff_eq.mpr c109
   clear c109
   obtain rfl := Option.some.inj H
   go_wp2_with (fail)
   go_ret
   exact ⟨RT, BW HB⟩
  rw [if_neg c109] at H
  have c109b0 : (t578 == 1) = false := beq_eq_false_iff_ne.mpr c109
  have c109b1 : (t578 != 1) = true := bne_iff_ne.mpr c109
  exact absurd ((Option.some.inj H).trans hr_) (by decide)
 rw [if_neg c108] at H
 have c108b0 : decide (65535 < a2) = false := decide_eq_false c108
 clear c108
 by_cases c130 : t578 = 11
 ·rw [if_pos c130] at H
  have c130b0 : (t578 == 11) = true := beq_iff_eq.mpr c130
  have c130b1 : (t578 != 11) = false := bne_eq_false_iff_eq.mpr c130
  clear c130
  obtain rfl := Option.some.inj H
  go_wp2_with (fail)
  go_ret
  exact ⟨RT, BW HB⟩
 rw [if_neg c130] at H
 have c130b0 : (t578 == 11) = false := beq_eq_false_iff_ne.mpr c130
 have c130b1 : (t578 != 11) = true := bne_iff_ne.mpr c130
 exact absurd ((Option.some.inj H).trans hr_) (by decide)

end Go.Proofs.Ytfnjohklmpiboaa.Pr
