-- trimmed by trims.py
-- Written by a program of the session (wip/tools) out of the translation, over the kit's print; with pieces of the session's own.
import Derived.Test.YtfnjohklmpiboaaPr0
import Derived.Test.YtfnjohklmpiboaaPr9
import Derived.Test.YtfnjohklmpiboaaPr19
import Derived.Test.YtfnjohklmpiboaaPr28
namespace Go.Proofs.Ytfnjohklmpiboaa.Pr
open Go.RowKit Go.Proofs.YtfnjohklmpiboaaW.PrintWords Go.Proofs.YtfnjohklmpiboaaW.PrintLast Go.Proofs.YtfnjohklmpiboaaW.PrintMore
attribute [local go_sem] max2_int min2_int max_two min_two max_three min_three max_four min_four   -- for this text's walks alone
set_option linter.unusedVariables false
set_option linter.unusedSimpArgs false
open Go.Proofs.Ytfnjohklmpiboaa.Sp
/-! ### weighbridgelaw10_PatchRefuses: function 7 -/
set_option maxHeartbeats 8000000 in
set_option maxRecDepth 100000 in
theorem weighbridgelaw10_PatchRefuses.callsF (a0_0 : Int) (a0_1 : Int) (a0_2 : Int) (a0_3 : Int) (a0_4 : Int) (a0_5 : Int) (a0_6 : Int) (a0_7 : ByteArray) (a0_8 : Bool) (a0_9 : Int) (a0_10 : Int) (a1 : Int) (a2 : Int) (r : Bool) (w : World) (h : weighbridgelaw10_PatchRefuses.f a0_0 a0_1 a0_2 a0_3 a0_4 a0_5 a0_6 a0_7 a0_8 a0_9 a0_10 a1 a2 = some r) (hr_ : r = true) (hc0_ : ¬ ((Int.tmod a1 6) < 2)) :
  Calls Try.prog 7 #[.agg #[.int .u8 a0_0, .int .u32 a0_1, .int .u32 a0_2, .int .u16 a0_3, .int .u16 a0_4, .int .u8 a0_5, .int .u8 a0_6, .string a0_7, .bool a0_8, .int .u32 a0_9, .int .u32 a0_10], .int .u8 a1, .int .i64 a2] w fun e w' => e = .returned (.bool r) ∧ Below w.heap.size w w' := by
 have hcA0_ := Aside0.mk hc0_
 clear hc0_
 have hu25 := Try.underlying25
 have hu27 := Try.underlying27
 have HB := Aside0.mk (Below.refl w.heap.size w)
 have H : ((weighbridgelaw10_examples.f).bind fun t567 => (if t567 = true then ((weighbridgelaw10_Make_frame.f a0_0 a0_1 a0_2 a0_3 a0_4 a0_5 (Int.tmod a1 6) a0_7 a0_8 a0_9 a0_10).bind fun t568 => ((patch_Plain.f t568 1 2 3 4).bind fun bt571 => ((patch_About.f t568 1 2 1 2 3 4).bind fun bt573 => ((patch_Plain.f t568 1 2 3 a2).bind fun bt575 => ((patch_About.f t568 1 2 1 2 3 a2).bind fun bt577 => (if (Int.tmod a1 6) < 2 then (if a2 < 0 then (if (Int.tmod a0_0 4) < 2 then (if bt571.2 = 11 then (if bt573.2 = 1 then (if bt575.2 = 1 then (some (bt577.2 == 1)) else (some false)) else (some false)) else (some false)) else (if bt573.2 = 11 then (if bt571.2 = 1 then (if bt577.2 = 1 then (some (bt575.2 == 1)) else (some false)) else (some false)) else (some false))) else (if (Int.tmod a0_0 4) < 2 then (if bt571.2 = 11 then (if bt573.2 = 1 then (if a2 > 65535 then (if bt575.2 = 1 then (some (bt577.2 == 1)) else (some false)) else (if bt575.2 = 11 then (some (bt577.2 == 1)) else (some false))) else (some false)) else (some false)) else (if bt573.2 = 11 then (if bt571.2 = 1 then (if a2 > 65535 then (if bt577.2 = 1 then (some (bt575.2 == 1)) else (some false)) else (if bt577.2 = 11 then (some (bt575.2 == 1)) else (some false))) else (some false)) else (some false)))) else (if a2 < 0 then (if (Int.tmod a0_0 4) < 2 then (if bt571.2 = 0 then (if bt573.2 = 1 then (if bt575.2 = 1 then (some (bt577.2 == 1)) else (some false)) else (some false)) else (some false)) else (if bt573.2 = 0 then (if bt571.2 = 1 then (if bt577.2 = 1 then (some (bt575.2 == 1)) else (some false)) else (some false)) else (some false))) else (if (Int.tmod a0_0 4) < 2 then (if bt571.2 = 0 then (if bt573.2 = 1 then (if a2 > 65535 then (if bt575.2 = 1 then (some (bt577.2 == 1)) else (some false)) else (if bt575.2 = 0 then (some (bt577.2 == 1)) else (some false))) else (some false)) else (some false)) else (if bt573.2 = 0 then (if bt571.2 = 1 then (if a2 > 65535 then (if bt577.2 = 1 then (some (bt575.2 == 1)) else (some false)) else (if bt577.2 = 0 then (some (bt575.2 == 1)) else (some false))) else (some false)) else (some false)))))))))) else (some false))) = some r := h
 clear h
 replace H := Option.bind_eq_some_iff.mp H
 obtain ⟨t567, A40, H⟩ := H
 (try set_option simprocs false in dsimp only at H)
 have A4 := Aside0.mk A40
 clear A40
 by_cases c5 : t567 = true
 rotate_left
 ·replace c5 := Bool.eq_false_iff.mpr c5
  subst c5
  have H1 : (some false) = some r := by rw [if_neg (show ¬ (false = true) by decide)] at H; exact H
  clear H
  have H := H1
  clear H1
  exact absurd ((Option.some.inj H).trans hr_) (by decide)
 subst c5
 first | rw [if_pos rfl] at H | rw [if_pos trivial] at H
 replace H := Option.bind_eq_some_iff.mp H
 obtain ⟨t568, A60, H⟩ := H
 (try set_option simprocs false in dsimp only at H)
 have A6 := Aside0.mk A60
 clear A60
 replace H := Option.bind_eq_some_iff.mp H
 obtain ⟨⟨t571, t572⟩, A70, H⟩ := H
 (try set_option simprocs false in dsimp only at H)
 have A7 := Aside0.mk A70
 clear A70
 replace H := Option.bind_eq_some_iff.mp H
 obtain ⟨⟨t573, t574⟩, A80, H⟩ := H
 (try set_option simprocs false in dsimp only at H)
 have A8 := Aside0.mk A80
 clear A80
 replace H := Option.bind_eq_some_iff.mp H
 obtain ⟨⟨t575, t576⟩, A90, H⟩ := H
 (try set_option simprocs false in dsimp only at H)
 have A9 := Aside0.mk A90
 clear A90
 replace H := Option.bind_eq_some_iff.mp H
 obtain ⟨⟨t577, t578⟩, A100, H⟩ := H
 (try set_option simprocs false in dsimp only at H)
 have A10 := Aside0.mk A100
 clear A100
 go_enter Try.func7, Try.ntmps7
 go_upto_region 14 with (first | ((with_reducible refine gate_dst (N := 3) rfl ?_); refine box_event ?hg (N := 3) ?hd (cs := (r11 a0_0 a0_1 a0_2 a0_3 a0_4 a0_5 a0_6 a0_7 a0_8 a0_9 a0_10)) (t := 25) ?hr ?_; (case hd => rfl); (case hg => rfl); (case hr => first | (go_simp; done) | (go_simp; rfl)); intro gb566 hg w156 hbox hb; have n0_ := Aside0.mk (below_step (BW HB) hb); have n1_ := Aside0.mk (hbox); have n2_ := Aside0.mk ((by rw [hg]; exact (below_size (BW HB)) : w.heap.size ≤ gb566)); have n3_ := Aside0.mk ((by rw [hg]; exact (below_size (BW HB)) : w.heap.size ≤ gb566)); clear HB; have HB := n0_; have BK566 := n1_; have GW566 := n2_; have GE566 := n3_; clear n0_ n1_ n2_ n3_; clear hb hbox hg) | ((with_reducible refine gate_callee (f := 9) rfl ?_); refine goesL_ (some 21) rfl rfl Try.func9 (by kernel_rfl) rfl #[] rfl AG ?_; (with_reducible refine (weighbridgelaw10_examples.calls  true _ A4.out).mono ?_); rintro e w157 ⟨rfl, hb⟩; (try clear A4); refine ⟨_, rfl, ?_⟩; have n0_ := Aside0.mk (blk_below (g := gb566) (o := .cells (r11 a0_0 a0_1 a0_2 a0_3 a0_4 a0_5 a0_6 a0_7 a0_8 a0_9 a0_10) 25 (0, 0)) (BD BK566) hb); have n1_ := Aside0.mk (below_step (BW HB) hb); clear BK566; clear HB; have BK566 := n0_; have HB := n1_; clear n0_ n1_; (try clear hb); obtain ⟨hcz158_0, hcz158_1, hcz158_2, hcz158_3, hcz158_4, hcz158_5, hcz158_6, hcz158_7, hcz158_8, hcz158_9, hcz158_10, hfz158_0, hfz158_1, hfz158_2, hfz158_3, hfz158_4, hfz158_5, hfz158_6, hfz158_7, hfz158_8, hfz158_9, hfz158_10⟩ := blk11 BK566.out) | ((with_reducible refine gate_callee (f := 11) rfl ?_); refine goesL_ (some 28) rfl rfl Try.func11 (by kernel_rfl) rfl #[.agg #[.int .u8 a0_0, .int .u32 a0_1, .int .u32 a0_2, .int .u16 a0_3, .int .u16 a0_4, .int .u8 a0_5, .int .u8 (Int.tmod a1 6), .string a0_7, .bool a0_8, .int .u32 a0_9, .int .u32 a0_10]] rfl AG ?_; (with_reducible refine (weighbridgelaw10_Make_frame.calls a0_0 a0_1 a0_2 a0_3 a0_4 a0_5 (Int.tmod a1 6) a0_7 a0_8 a0_9 a0_10 t568 _ A6.out).mono ?_); rintro e w159 ⟨rfl, hb⟩; (try clear A6); refine ⟨_, rfl, ?_⟩; have n0_ := Aside0.mk (blk_below (g := gb566) (o := .cells (r11 a0_0 a0_1 a0_2 a0_3 a0_4 a0_5 (Int.tmod a1 6) a0_7 a0_8 a0_9 a0_10) 25 (0, 0)) (BE BK566) hb); have n1_ := Aside0.mk (below_step (BW HB) hb); clear BK566; clear HB; have BK566 := n0_; have HB := n1_; clear n0_ n1_; (try clear hb)) | ((with_reducible refine gate_dst (N := 9) rfl ?_); refine box_event ?hg (N := 9) ?hd (cs := #[.int .u32 0, .int .u32 0, .int .i64 0, .int .i64 0]) (t := 27) ?hr ?_; (case hd => rfl); (case hg => rfl); (case hr => first | (go_simp; done) | (go_simp; rfl)); intro gb569 hg w160 hbox hb; have n0_ := Aside0.mk (blk_below (g := gb566) (o := .cells (r11 a0_0 a0_1 a0_2 a0_3 a0_4 a0_5 (Int.tmod a1 6) a0_7 a0_8 a0_9 a0_10) 25 (0, 0)) (BD BK566) hb); have n1_ := Aside0.mk (below_step (BW HB) hb); have n2_ := Aside0.mk (hbox); have n3_ := Aside0.mk ((by rw [hg]; exact (below_size (BW HB)) : w.heap.size ≤ gb569)); have n4_ := Aside0.mk ((by rw [hg]; exact (below_size (BW HB)) : w.heap.size ≤ gb569)); have n5_ := Aside0.mk ((by rw [hg]; exact Nat.ne_of_lt (blk_lt (g := gb566) (o := .cells (r11 a0_0 a0_1 a0_2 a0_3 a0_4 a0_5 (Int.tmod a1 6) a0_7 a0_8 a0_9 a0_10) 25 (0, 0)) (BD BK566)) : gb566 ≠ gb569)); have n6_ := Aside0.mk ((by rw [hg]; exact Nat.ne_of_gt (blk_lt (g := gb566) (o := .cells (r11 a0_0 a0_1 a0_2 a0_3 a0_4 a0_5 (Int.tmod a1 6) a0_7 a0_8 a0_9 a0_10) 25 (0, 0)) (BD BK566)) : gb569 ≠ gb566)); clear BK566; clear HB; have BK566 := n0_; have HB := n1_; have BK569 := n2_; have GW569 := n3_; have GE569 := n4_; have NB566_569 := n5_; have NB569_566 := n6_; clear n0_ n1_ n2_ n3_ n4_ n5_ n6_; clear hb hbox hg; have hnb161 := NB569_566.out; have hnc161 := NB566_569.out; obtain ⟨hcz162_0, hcz162_1, hcz162_2, hcz162_3, hfz162_0, hfz162_1, hfz162_2, hfz162_3⟩ := blk4 BK569.out) | ((with_reducible refine gate_dst (N := 10) rfl ?_); refine box_event ?hg (N := 10) ?hd (cs := #[.int .u32 0, .int .u32 0, .int .i64 0, .int .i64 0]) (t := 27) ?hr ?_; (case hd => rfl); (case hg => rfl); (case hr => first | (go_simp; done) | (go_simp; rfl)); intro gb570 hg w163 hbox hb; have n0_ := Aside0.mk (blk_below (g := gb566) (o := .cells (r11 a0_0 a0_1 a0_2 a0_3 a0_4 a0_5 (Int.tmod a1 6) a0_7 a0_8 a0_9 a0_10) 25 (0, 0)) (BE BK566) hb); have n1_ := Aside0.mk (blk_below (g := gb569) (o := .cells #[.int .u32 1, .int .u32 2, .int .i64 3, .int .i64 4] 27 (0, 0)) (BE BK569) hb); have n2_ := Aside0.mk (below_step (BW HB) hb); have n3_ := Aside0.mk (hbox); have n4_ := Aside0.mk ((by rw [hg]; exact (below_size (BW HB)) : w.heap.size ≤ gb570)); have n5_ := Aside0.mk ((by rw [hg]; exact (below_size (BW HB)) : w.heap.size ≤ gb570)); have n6_ := Aside0.mk ((by rw [hg]; exact Nat.ne_of_lt (blk_lt (g := gb566) (o := .cells (r11 a0_0 a0_1 a0_2 a0_3 a0_4 a0_5 (Int.tmod a1 6) a0_7 a0_8 a0_9 a0_10) 25 (0, 0)) (BE BK566)) : gb566 ≠ gb570)); have n7_ := Aside0.mk ((by rw [hg]; exact Nat.ne_of_gt (blk_lt (g := gb566) (o := .cells (r11 a0_0 a0_1 a0_2 a0_3 a0_4 a0_5 (Int.tmod a1 6) a0_7 a0_8 a0_9 a0_10) 25 (0, 0)) (BE BK566)) : gb570 ≠ gb566)); have n8_ := Aside0.mk ((by rw [hg]; exact Nat.ne_of_lt (blk_lt (g := gb569) (o := .cells #[.int .u32 1, .int .u32 2, .int .i64 3, .int .i64 4] 27 (0, 0)) (BE BK569)) : gb569 ≠ gb570)); have n9_ := Aside0.mk ((by rw [hg]; exact Nat.ne_of_gt (blk_lt (g := gb569) (o := .cells #[.int .u32 1, .int .u32 2, .int .i64 3, .int .i64 4] 27 (0, 0)) (BE BK569)) : gb570 ≠ gb569)); clear BK566; clear BK569; clear HB; have BK566 := n0_; have BK569 := n1_; have HB := n2_; have BK570 := n3_; have GW570 := n4_; have GE570 := n5_; have NB566_570 := n6_; have NB570_566 := n7_; have NB569_570 := n8_; have NB570_569 := n9_; clear n0_ n1_ n2_ n3_ n4_ n5_ n6_ n7_ n8_ n9_; clear hb hbox hg; have hnb164 := NB570_566.out; have hnc164 := NB566_570.out; have hnb165 := NB570_569.out; have hnc165 := NB569_570.out; obtain ⟨hcz166_0, hcz166_1, hcz166_2, hcz166_3, hfz166_0, hfz166_1, hfz166_2, hfz166_3⟩ := blk4 BK570.out; obtain ⟨hcz167_0, hcz167_1, hcz167_2, hcz167_3, hfz167_0, hfz167_1, hfz167_2, hfz167_3⟩ := blk4 BK569.out) | ((with_reducible refine gate_callee (f := 12) rfl ?_); refine goesL_ (some 36) rfl rfl Try.func12 (by kernel_rfl) rfl #[.string t568, .agg #[.int .u32 1, .int .u32 2, .int .i64 3, .int .i64 4]] rfl AG ?_; (with_reducible refine (patch_Plain.calls t568 1 2 3 4 t571 t572 _ A7.out).mono ?_); rintro e w168 ⟨rfl, hb⟩; (try clear A7); refine ⟨_, rfl, ?_⟩; have n0_ := Aside0.mk (blk_below (g := gb566) (o := .cells (r11 a0_0 a0_1 a0_2 a0_3 a0_4 a0_5 (Int.tmod a1 6) a0_7 a0_8 a0_9 a0_10) 25 (0, 0)) (BE BK566) hb); have n1_ := Aside0.mk (blk_below (g := gb569) (o := .cells #[.int .u32 1, .int .u32 2, .int .i64 3, .int .i64 4] 27 (0, 0)) (BE BK569) hb); have n2_ := Aside0.mk (blk_below (g := gb570) (o := .cells #[.int .u32 1, .int .u32 2, .int .i64 3, .int .i64 a2] 27 (0, 0)) (BE BK570) hb); have n3_ := Aside0.mk (below_step (BW HB) hb); clear BK566; clear BK569; clear BK570; clear HB; have BK566 := n0_; have BK569 := n1_; have BK570 := n2_; have HB := n3_; clear n0_ n1_ n2_ n3_; (try clear hb); obtain ⟨hcz169_0, hcz169_1, hcz169_2, hcz169_3, hfz169_0, hfz169_1, hfz169_2, hfz169_3⟩ := blk4 BK569.out) | ((with_reducible refine gate_callee (f := 16) rfl ?_); refine goesL_ (some 42) rfl rfl Try.func16 (by kernel_rfl) rfl #[.string t568, .int .u32 1, .int .u32 2, .agg #[.int .u32 1, .int .u32 2, .int .i64 3, .int .i64 4]] rfl AG ?_; (with_reducible refine (patch_About.calls t568 1 2 1 2 3 4 t573 t574 _ A8.out).mono ?_); rintro e w170 ⟨rfl, hb⟩; (try clear A8); refine ⟨_, rfl, ?_⟩; have n0_ := Aside0.mk (blk_below (g := gb566) (o := .cells (r11 a0_0 a0_1 a0_2 a0_3 a0_4 a0_5 (Int.tmod a1 6) a0_7 a0_8 a0_9 a0_10) 25 (0, 0)) (BD BK566) hb); have n1_ := Aside0.mk (blk_below (g := gb569) (o := .cells #[.int .u32 1, .int .u32 2, .int .i64 3, .int .i64 4] 27 (0, 0)) (BD BK569) hb); have n2_ := Aside0.mk (blk_below (g := gb570) (o := .cells #[.int .u32 1, .int .u32 2, .int .i64 3, .int .i64 a2] 27 (0, 0)) (BD BK570) hb); have n3_ := Aside0.mk (below_step (BW HB) hb); clear BK566; clear BK569; clear BK570; clear HB; have BK566 := n0_; have BK569 := n1_; have BK570 := n2_; have HB := n3_; clear n0_ n1_ n2_ n3_; (try clear hb); obtain ⟨hcz171_0, hcz171_1, hcz171_2, hcz171_3, hfz171_0, hfz171_1, hfz171_2, hfz171_3⟩ := blk4 BK570.out) | ((with_reducible refine gate_callee (f := 12) rfl ?_); refine goesL_ (some 48) rfl rfl Try.func12 (by kernel_rfl) rfl #[.string t568, .agg #[.int .u32 1, .int .u32 2, .int .i64 3, .int .i64 a2]] rfl AG ?_; (with_reducible refine (patch_Plain.calls t568 1 2 3 a2 t575 t576 _ A9.out).mono ?_); rintro e w172 ⟨rfl, hb⟩; (try clear A9); refine ⟨_, rfl, ?_⟩; have n0_ := Aside0.mk (blk_below (g := gb566) (o := .cells (r11 a0_0 a0_1 a0_2 a0_3 a0_4 a0_5 (Int.tmod a1 6) a0_7 a0_8 a0_9 a0_10) 25 (0, 0)) (BD BK566) hb); have n1_ := Aside0.mk (blk_below (g := gb569) (o := .cells #[.int .u32 1, .int .u32 2, .int .i64 3, .int .i64 4] 27 (0, 0)) (BD BK569) hb); have n2_ := Aside0.mk (blk_below (g := gb570) (o := .cells #[.int .u32 1, .int .u32 2, .int .i64 3, .int .i64 a2] 27 (0, 0)) (BD BK570) hb); have n3_ := Aside0.mk (below_step (BW HB) hb); clear BK566; clear BK569; clear BK570; clear HB; have BK566 := n0_; have BK569 := n1_; have BK570 := n2_; have HB := n3_; clear n0_ n1_ n2_ n3_; (try clear hb); obtain ⟨hcz173_0, hcz173_1, hcz173_2, hcz173_3, hfz173_0, hfz173_1, hfz173_2, hfz173_3⟩ := blk4 BK570.out) | ((with_reducible refine gate_callee (f := 16) rfl ?_); refine goesL_ (some 54) rfl rfl Try.func16 (by kernel_rfl) rfl #[.string t568, .int .u32 1, .int .u32 2, .agg #[.int .u32 1, .int .u32 2, .int .i64 3, .int .i64 a2]] rfl AG ?_; (with_reducible refine (patch_About.calls t568 1 2 1 2 3 a2 t577 t578 _ A10.out).mono ?_); rintro e w174 ⟨rfl, hb⟩; (try clear A10); refine ⟨_, rfl, ?_⟩; have n0_ := Aside0.mk (blk_below (g := gb566) (o := .cells (r11 a0_0 a0_1 a0_2 a0_3 a0_4 a0_5 (Int.tmod a1 6) a0_7 a0_8 a0_9 a0_10) 25 (0, 0)) (BD BK566) hb); have n1_ := Aside0.mk (blk_below (g := gb569) (o := .cells #[.int .u32 1, .int .u32 2, .int .i64 3, .int .i64 4] 27 (0, 0)) (BD BK569) hb); have n2_ := Aside0.mk (blk_below (g := gb570) (o := .cells #[.int .u32 1, .int .u32 2, .int .i64 3, .int .i64 a2] 27 (0, 0)) (BD BK570) hb); have n3_ := Aside0.mk (below_step (BW HB) hb); clear BK566; clear BK569; clear BK570; clear HB; have BK566 := n0_; have BK569 := n1_; have BK570 := n2_; have HB := n3_; clear n0_ n1_ n2_ n3_; (try clear hb); obtain ⟨hcz175_0, hcz175_1, hcz175_2, hcz175_3, hcz175_4, hcz175_5, hcz175_6, hcz175_7, hcz175_8, hcz175_9, hcz175_10, hfz175_0, hfz175_1, hfz175_2, hfz175_3, hfz175_4, hfz175_5, hfz175_6, hfz175_7, hfz175_8, hfz175_9, hfz175_10⟩ := blk11 BK566.out))
 by_cases c11 : (Int.tmod a1 6) < 2
 ·exact absurd c11 hcA0_.out
 rw [if_neg c11] at H
 have c11b0 : decide ((Int.tmod a1 6) < 2) = false := decide_eq_false c11
 clear c11
 by_cases c151 : a2 < 0
 ·rw [if_pos c151] at H
  have c151b0 : decide (a2 < 0) = true := decide_eq_true c151
  clear c151
  by_cases c152 : (Int.tmod a0_0 4) < 2
  ·rw [if_pos c152] at H
   have c152b0 : decide ((Int.tmod a0_0 4) < 2) = true := decide_eq_true c152
   clear c152
   by_cases c153 : t572 = 0
   rotate_left
   ·rw [if_neg c153] at H
    have c153b0 : (t572 == 0) = false := beq_eq_false_iff_ne.mpr c153
    have c153b1 : (t572 != 0) = true := bne_iff_ne.mpr c153
    exact absurd ((Option.some.inj H).trans hr_) (by decide)
   rw [if_pos c153] at H
   have c153b0 : (t572 == 0) = true := beq_iff_eq.mpr c153
   have c153b1 : (t572 != 0) = false := bne_eq_false_iff_eq.mpr c153
   clear c153
   by_cases c154 : t574 = 1
   ·rw [if_pos c154] at H
    have c154b0 : (t574 == 1) = true := beq_iff_eq.mpr c154
    have c154b1 : (t574 != 1) = false := bne_eq_false_iff_eq.mpr c154
    clear c154
    by_cases c155 : t576 = 1
    ·rw [if_pos c155] at H
     have c155b0 : (t576 == 1) = true := beq_iff_eq.mpr c155
     have c155b1 : (t576 != 1) = false := bne_eq_false_iff_eq.mpr c155
     clear c155
     obtain rfl := Option.some.inj H
     go_wp2_with (fail)
     go_ret
     exact ⟨RT, BW HB⟩
    rw [if_neg c155] at H
    have c155b0 : (t576 == 1) = false := beq_eq_false_iff_ne.mpr c155
    have c155b1 : (t576 != 1) = true := bne_iff_ne.mpr c155
    exact absurd ((Option.some.inj H).trans hr_) (by decide)
   rw [if_neg c154] at H
   have c154b0 : (t574 == 1) = false := beq_eq_false_iff_ne.mpr c154
   have c154b1 : (t574 != 1) = true := bne_iff_ne.mpr c154
   exact absurd ((Option.some.inj H).trans hr_) (by decide)
  rw [if_neg c152] at H
  have c152b0 : decide ((Int.tmod a0_0 4) < 2) = false := decide_eq_false c152
  clear c152
  by_cases c176 : t574 = 0
  rotate_left
  ·rw [if_neg c176] at H
   have c176b0 : (t574 == 0) = false := beq_eq_false_iff_ne.mpr c176
   have c176b1 : (t574 != 0) = true := bne_iff_ne.mpr c176
   exact absurd ((Option.some.inj H).trans hr_) (by decide)
  rw [if_pos c176] at H
  have c176b0 : (t574 == 0) = true := beq_iff_eq.mpr c176
  have c176b1 : (t574 != 0) = false := bne_eq_false_iff_eq.mpr c176
  clear c176
  by_cases c177 : t572 = 1
  ·rw [if_pos c177] at H
   have c177b0 : (t572 == 1) = true := beq_iff_eq.mpr c177
   have c177b1 : (t572 != 1) = false := bne_eq_false_iff_eq.mpr c177
   clear c177
   by_cases c178 : t578 = 1
   ·rw [if_pos c178] at H
    have c178b0 : (t578 == 1) = true := beq_iff_eq.mpr c178
    have c178b1 : (t578 != 1) = false := bne_eq_false_iff_eq.mpr c178
    clear c178
    obtain rfl := Option.some.inj H
    go_wp2_with (fail)
    go_ret
    exact ⟨RT, BW HB⟩
   rw [if_neg c178] at H
   have c178b0 : (t578 == 1) = false := beq_eq_false_iff_ne.mpr c178
   have c178b1 : (t578 != 1) = true := bne_iff_ne.mpr c178
   exact absurd ((Option.some.inj H).trans hr_) (by decide)
  rw [if_neg c177] at H
  have c177b0 : (t572 == 1) = false := beq_eq_false_iff_ne.mpr c177
  have c177b1 : (t572 != 1) = true := bne_iff_ne.mpr c177
  exact absurd ((Option.some.inj H).trans hr_) (by decide)
 rw [if_neg c151] at H
 have c151b0 : decide (a2 < 0) = false := decide_eq_false c151
 clear c151
 by_cases c199 : (Int.tmod a0_0 4) < 2
 ·rw [if_pos c199] at H
  have c199b0 : decide ((Int.tmod a0_0 4) < 2) = true := decide_eq_true c199
  clear c199
  by_cases c200 : t572 = 0
  rotate_left
  ·rw [if_neg c200] at H
   have c200b0 : (t572 == 0) = false := beq_eq_false_iff_ne.mpr c200
   have c200b1 : (t572 != 0) = true := bne_iff_ne.mpr c200
   exact absurd ((Option.some.inj H).trans hr_) (by decide)
  rw [if_pos c200] at H
  have c200b0 : (t572 == 0) = true := beq_iff_eq.mpr c200
  have c200b1 : (t572 != 0) = false := bne_eq_false_iff_eq.mpr c200
  clear c200
  by_cases c201 : t574 = 1
  rotate_left
  ·rw [if_neg c201] at H
   have c201b0 : (t574 == 1) = false := beq_eq_false_iff_ne.mpr c201
   have c201b1 : (t574 != 1) = true := bne_iff_ne.mpr c201
   exact absurd ((Option.some.inj H).trans hr_) (by decide)
  rw [if_pos c201] at H
  have c201b0 : (t574 == 1) = true := beq_iff_eq.mpr c201
  have c201b1 : (t574 != 1) = false := bne_eq_false_iff_eq.mpr c201
  clear c201
  by_cases c202 : a2 > 65535
  ·rw [if_pos c202] at H
   have c202b0 : decide (65535 < a2) = true := decide_eq_true c202
   clear c202
   by_cases c203 : t576 = 1
   ·rw [if_pos c203] at H
    have c203b0 : (t576 == 1) = true := beq_iff_eq.mpr c203
    have c203b1 : (t576 != 1) = false := bne_eq_false_iff_eq.mpr c203
    clear c203
    obtain rfl := Option.some.inj H
    go_wp2_with (fail)
    go_ret
    exact ⟨RT, BW HB⟩
   rw [if_neg c203] at H
   have c203b0 : (t576 == 1) = false := beq_eq_false_iff_ne.mpr c203
   have c203b1 : (t576 != 1) = true := bne_iff_ne.mpr c203
   exact absurd ((Option.some.inj H).trans hr_) (by decide)
  rw [if_neg c202] at H
  have c202b0 : decide (65535 < a2) = false := decide_eq_false c202
  clear c202
  by_cases c224 : t576 = 0
  ·rw [if_pos c224] at H
   have c224b0 : (t576 == 0) = true := beq_iff_eq.mpr c224
   have c224b1 : (t576 != 0) = false := bne_eq_false_iff_eq.mpr c224
   clear c224
   obtain rfl := Option.some.inj H
   go_wp2_with (fail)
   go_ret
   exact ⟨RT, BW HB⟩
  rw [if_neg c224] at H
  have c224b0 : (t576 == 0) = false := beq_eq_false_iff_ne.mpr c224
  have c224b1 : (t576 != 0) = true := bne_iff_ne.mpr c224
  exact absurd ((Option.some.inj H).trans hr_) (by decide)
 rw [if_neg c199] at H
 have c199b0 : decide ((Int.tmod a0_0 4) < 2) = false := decide_eq_false c199
 clear c199
 by_cases c245 : t574 = 0
 rotate_left
 ·rw [if_neg c245] at H
  have c245b0 : (t574 == 0) = false := beq_eq_false_iff_ne.mpr c245
  have c245b1 : (t574 != 0) = true := bne_iff_ne.mpr c245
  exact absurd ((Option.some.inj H).trans hr_) (by decide)
 rw [if_pos c245] at H
 have c245b0 : (t574 == 0) = true := beq_iff_eq.mpr c245
 have c245b1 : (t574 != 0) = false := bne_eq_false_iff_eq.mpr c245
 clear c245
 by_cases c246 : t572 = 1
 rotate_left
 ·rw [if_neg c246] at H
  have c246b0 : (t572 == 1) = false := beq_eq_false_iff_ne.mpr c246
  have c246b1 : (t572 != 1) = true := bne_iff_ne.mpr c246
  exact absurd ((Option.some.inj H).trans hr_) (by decide)
 rw [if_pos c246] at H
 have c246b0 : (t572 == 1) = true := beq_iff_eq.mpr c246
 have c246b1 : (t572 != 1) = false := bne_eq_false_iff_eq.mpr c246
 clear c246
 by_cases c247 : a2 > 65535
 ·rw [if_pos c247] at H
  have c247b0 : decide (65535 < a2) = true := decide_eq_true c247
  clear c247
  by_cases c248 : t578 = 1
  ·rw [if_pos c248] at H
   have c248b0 : (t578 == 1) = true := beq_iff_eq.mpr c248
   have c248b1 : (t578 != 1) = false := bne_eq_false_iff_eq.mpr c248
   clear c248
   obtain rfl := Option.some.inj H
   go_wp2_with (fail)
   go_ret
   exact ⟨RT, BW HB⟩
  rw [if_neg c248] at H
  have c248b0 : (t578 == 1) = false := beq_eq_false_iff_ne.mpr c248
  have c248b1 : (t578 != 1) = true := bne_iff_ne.mpr c248
  exact absurd ((Option.some.inj H).trans hr_) (by decide)
 rw [if_neg c247] at H
 have c247b0 : decide (65535 < a2) = false := decide_eq_false c247
 clear c247
 by_cases c269 : t578 = 0
 ·rw [if_pos c269] at H
  have c269b0 : (t578 == 0) = true := beq_iff_eq.mpr c269
  have c269b1 : (t578 != 0) = false := bne_eq_false_iff_eq.mpr c269
  clear c269
  obtain rfl := Option.some.inj H
  go_wp2_with (fail)
  go_ret
  exact ⟨RT, BW HB⟩
 rw [if_neg c269] at H
 have c269b0 : (t578 == 0) = false := beq_eq_false_iff_ne.mpr c269
 have c269b1 : (t578 != 0) = true := bne_iff_ne.mpr c269
 exact absurd ((Option.some.inj H).trans hr_) (by decide)

/-! ### weighbridgelaw10_PatchRefuses: function 7 -/
set_option maxHeartbeats 8000000 in
set_option maxRecDepth 100000 in
theorem weighbridgelaw10_PatchRefuses.calls (a0_0 : Int) (a0_1 : Int) (a0_2 : Int) (a0_3 : Int) (a0_4 : Int) (a0_5 : Int) (a0_6 : Int) (a0_7 : ByteArray) (a0_8 : Bool) (a0_9 : Int) (a0_10 : Int) (a1 : Int) (a2 : Int) (r : Bool) (w : World) (h : weighbridgelaw10_PatchRefuses.f a0_0 a0_1 a0_2 a0_3 a0_4 a0_5 a0_6 a0_7 a0_8 a0_9 a0_10 a1 a2 = some r) (hr_ : r = true) :
  Calls Try.prog 7 #[.agg #[.int .u8 a0_0, .int .u32 a0_1, .int .u32 a0_2, .int .u16 a0_3, .int .u16 a0_4, .int .u8 a0_5, .int .u8 a0_6, .string a0_7, .bool a0_8, .int .u32 a0_9, .int .u32 a0_10], .int .u8 a1, .int .i64 a2] w fun e w' => e = .returned (.bool r) ∧ Below w.heap.size w w' := by
 by_cases hz_ : (Int.tmod a1 6) < 2
 ·exact weighbridgelaw10_PatchRefuses.callsT a0_0 a0_1 a0_2 a0_3 a0_4 a0_5 a0_6 a0_7 a0_8 a0_9 a0_10 a1 a2 r w h hr_ hz_
 exact weighbridgelaw10_PatchRefuses.callsF a0_0 a0_1 a0_2 a0_3 a0_4 a0_5 a0_6 a0_7 a0_8 a0_9 a0_10 a1 a2 r w h hr_ hz_
/-- THE ONE PURE STATEMENT of weighbridgelaw10_PatchRefuses: yours. -/
def weighbridgelaw10_PatchRefuses.Pure : Prop := ∀ (a0_0 : Int) (a0_1 : Int) (a0_2 : Int) (a0_3 : Int) (a0_4 : Int) (a0_5 : Int) (a0_6 : Int) (a0_7 : ByteArray) (a0_8 : Bool) (a0_9 : Int) (a0_10 : Int) (a1 : Int) (a2 : Int), (Lit.int .u8 a0_0).wf = true → (Lit.int .u32 a0_1).wf = true → (Lit.int .u32 a0_2).wf = true → (Lit.int .u16 a0_3).wf = true → (Lit.int .u16 a0_4).wf = true → (Lit.int .u8 a0_5).wf = true → (Lit.int .u8 a0_6).wf = true → a0_7.size ≤ 140737488351232 → (Lit.int .u32 a0_9).wf = true → (Lit.int .u32 a0_10).wf = true → (Lit.int .u8 a1).wf = true → (Lit.int .i64 a2).wf = true → weighbridgelaw10_PatchRefuses.f a0_0 a0_1 a0_2 a0_3 a0_4 a0_5 a0_6 a0_7 a0_8 a0_9 a0_10 a1 a2 = some true
theorem weighbridgelaw10_PatchRefuses.walk (P : weighbridgelaw10_PatchRefuses.Pure) (a0_0 : Int) (a0_1 : Int) (a0_2 : Int) (a0_3 : Int) (a0_4 : Int) (a0_5 : Int) (a0_6 : Int) (a0_7 : ByteArray) (a0_8 : Bool) (a0_9 : Int) (a0_10 : Int) (a1 : Int) (a2 : Int) (w : World) (w0_0 : (Lit.int .u8 a0_0).wf = true) (w0_1 : (Lit.int .u32 a0_1).wf = true) (w0_2 : (Lit.int .u32 a0_2).wf = true) (w0_3 : (Lit.int .u16 a0_3).wf = true) (w0_4 : (Lit.int .u16 a0_4).wf = true) (w0_5 : (Lit.int .u8 a0_5).wf = true) (w0_6 : (Lit.int .u8 a0_6).wf = true) (w0_7 : a0_7.size ≤ 140737488351232) (w0_9 : (Lit.int .u32 a0_9).wf = true) (w0_10 : (Lit.int .u32 a0_10).wf = true) (w1 : (Lit.int .u8 a1).wf = true) (w2 : (Lit.int .i64 a2).wf = true) :
  Calls Try.prog 7 #[.agg #[.int .u8 a0_0, .int .u32 a0_1, .int .u32 a0_2, .int .u16 a0_3, .int .u16 a0_4, .int .u8 a0_5, .int .u8 a0_6, .string a0_7, .bool a0_8, .int .u32 a0_9, .int .u32 a0_10], .int .u8 a1, .int .i64 a2] w fun e w' => e = .returned (.bool true) ∧ Below w.heap.size w w' := by
 have h := P a0_0 a0_1 a0_2 a0_3 a0_4 a0_5 a0_6 a0_7 a0_8 a0_9 a0_10 a1 a2 w0_0 w0_1 w0_2 w0_3 w0_4 w0_5 w0_6 w0_7 w0_9 w0_10 w1 w2
 refine (weighbridgelaw10_PatchRefuses.calls a0_0 a0_1 a0_2 a0_3 a0_4 a0_5 a0_6 a0_7 a0_8 a0_9 a0_10 a1 a2 true w h rfl).mono ?_
 rintro e w' ⟨rfl, hd⟩
 exact ⟨rfl, hd⟩
end Go.Proofs.Ytfnjohklmpiboaa.Pr
