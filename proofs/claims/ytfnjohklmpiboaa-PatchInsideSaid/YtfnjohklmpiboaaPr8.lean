-- trimmed by trims.py
-- Written by a program of the session (wip/tools) out of the translation, over the kit's print; with pieces of the session's own.
import Derived.Test.YtfnjohklmpiboaaPr0
import Derived.Test.YtfnjohklmpiboaaPr2
import Derived.Test.YtfnjohklmpiboaaPr4
namespace Go.Proofs.Ytfnjohklmpiboaa.Pr
open Go.RowKit Go.Proofs.YtfnjohklmpiboaaW.PrintWords Go.Proofs.YtfnjohklmpiboaaW.PrintLast Go.Proofs.YtfnjohklmpiboaaW.PrintMore
attribute [local go_sem] max2_int min2_int max_two min_two max_three min_three max_four min_four   -- for this text's walks alone
set_option linter.unusedVariables false
set_option linter.unusedSimpArgs false
open Go.Proofs.Ytfnjohklmpiboaa.Sp
/-! ### weighbridgeref05_word: function 97 -/
def weighbridgeref05_word.f (a0 : Int) : Option (Bool) := if a0 ≥ 0 then (some (decide (a0 ≤ 65535))) else (some false)
set_option maxHeartbeats 8000000 in
set_option maxRecDepth 100000 in
theorem weighbridgeref05_word.calls (a0 : Int) (r : Bool) (w : World) (h : weighbridgeref05_word.f a0 = some r) :
  Calls Try.prog 97 #[.int .i64 a0] w fun e w' => e = .returned (.bool r) ∧ Drawn0 w w' := by
 have H : (if a0 ≥ 0 then (some (decide (a0 ≤ 65535))) else (some false)) = some r := h
 clear h
 by_cases c2 : a0 ≥ 0
 ·rw [if_pos c2] at H
  have c2b0 : decide (0 ≤ a0) = true := decide_eq_true c2
  clear c2
  obtain rfl := Option.some.inj H
  go_enter Try.func97, Try.ntmps97
  go_wp2
  go_ret
  exact ⟨by first | rfl | (simp; done) | (simp [*]; done), by repeat (first | exact Drawn0.refl _ | apply Drawn0.step)⟩
 rw [if_neg c2] at H
 have c2b0 : decide (0 ≤ a0) = false := decide_eq_false c2
 clear c2
 obtain rfl := Option.some.inj H
 go_enter Try.func97, Try.ntmps97
 go_wp2
 go_ret
 exact ⟨by first | rfl | (simp; done) | (simp [*]; done), by repeat (first | exact Drawn0.refl _ | apply Drawn0.step)⟩

/-! ### weighbridgeref05_Right_p: function 79 -/
def weighbridgeref05_Right_p.f (a0_0 : Int) (a0_1 : Int) (a0_2 : Int) (a0_3 : Int) (a0_4 : Int) (a0_5 : Int) (a0_6 : Int) (a0_7 : ByteArray) : Option (Bool) := (weighbridgeref04_OptsRight.f a0_7).bind fun t173 => ((weighbridgeref05_word.f a0_0).bind fun t174 => (if t174 = true then ((weighbridgeref05_word.f a0_1).bind fun t175 => (if t175 = true then ((weighbridgeref05_word.f a0_5).bind fun t176 => (if t176 = true then ((weighbridgeref05_word.f a0_6).bind fun t177 => (if t177 = true then (if a0_4 ≥ 0 then (if a0_4 ≤ 4095 then (if (a0_7.size : Int) ≤ 40 then (if ((a0_7.size : Int) % 4) = 0 then (some t173) else (some false)) else (some false)) else (some false)) else (some false)) else (some false))) else (some false))) else (some false))) else (some false)))
set_option maxHeartbeats 8000000 in
set_option maxRecDepth 100000 in
theorem weighbridgeref05_Right_p.calls (a0_0 : Int) (a0_1 : Int) (a0_2 : Int) (a0_3 : Int) (a0_4 : Int) (a0_5 : Int) (a0_6 : Int) (a0_7 : ByteArray) (r : Bool) (w : World) (h : weighbridgeref05_Right_p.f a0_0 a0_1 a0_2 a0_3 a0_4 a0_5 a0_6 a0_7 = some r) :
  Calls Try.prog 79 #[.agg #[.int .i64 a0_0, .int .i64 a0_1, .int .u32 a0_2, .int .u32 a0_3, .int .i64 a0_4, .int .i64 a0_5, .int .i64 a0_6, .string a0_7]] w fun e w' => e = .returned (.bool r) ∧ Below w.heap.size w w' := by
 have hu90 := Try.underlying90
 have HB := Aside0.mk (Below.refl w.heap.size w)
 have H := h
 unfold weighbridgeref05_Right_p.f at H
 clear h
 replace H := Option.bind_eq_some_iff.mp H
 obtain ⟨t173, A20, H⟩ := H
 (try set_option simprocs false in dsimp only at H)
 have A2 := Aside0.mk A20
 clear A20
 replace H := Option.bind_eq_some_iff.mp H
 obtain ⟨t174, A30, H⟩ := H
 (try set_option simprocs false in dsimp only at H)
 have A3 := Aside0.mk A30
 clear A30
 by_cases c4 : t174 = true
 rotate_left
 ·replace c4 := Bool.eq_false_iff.mpr c4
  subst c4
  have H1 : (some false) = some r := by rw [if_neg (show ¬ (false = true) by decide)] at H; exact H
  clear H
  have H := H1
  clear H1
  obtain rfl := Option.some.inj H
  go_enter Try.func79, Try.ntmps79
  go_wp2_with (first | ((with_reducible refine gate_dst (N := 1) rfl ?_); (try (refine gate_guard (by rfl) ?_; dsimp only)); refine box_event ?hg (N := 1) ?hd (cs := (r8 a0_0 a0_1 a0_2 a0_3 a0_4 a0_5 a0_6 a0_7)) (t := 90) ?hr ?_; (case hd => rfl); (case hg => rfl); (case hr => first | (go_simp; done) | (go_simp; rfl)); intro gb172 hg w31 hbox hb; have n0_ := Aside0.mk (below_step (BW HB) hb); have n1_ := Aside0.mk (hbox); have n2_ := Aside0.mk ((by rw [hg]; exact (below_size (BW HB)) : w.heap.size ≤ gb172)); have n3_ := Aside0.mk ((by rw [hg]; exact (below_size (BW HB)) : w.heap.size ≤ gb172)); clear HB; have HB := n0_; have BK172 := n1_; have GW172 := n2_; have GE172 := n3_; clear n0_ n1_ n2_ n3_; clear hb hbox hg; obtain ⟨hcz32_0, hcz32_1, hcz32_2, hcz32_3, hcz32_4, hcz32_5, hcz32_6, hcz32_7, hfz32_0, hfz32_1, hfz32_2, hfz32_3, hfz32_4, hfz32_5, hfz32_6, hfz32_7⟩ := blk8 BK172.out) | ((with_reducible refine gate_callee (f := 75) rfl ?_); refine goesL_ (some 6) rfl rfl Try.func75 (by kernel_rfl) rfl #[.string a0_7] rfl AG ?_; (with_reducible refine (weighbridgeref04_OptsRight.calls a0_7 t173 _ A2.out).mono ?_); rintro e w' ⟨rfl, ⟨nd, rfl⟩⟩; refine ⟨_, rfl, ?_⟩) | ((with_reducible refine gate_callee (f := 97) rfl ?_); refine goesL_ (some 9) rfl rfl Try.func97 (by kernel_rfl) rfl #[.int .i64 a0_0] rfl AG ?_; (with_reducible refine (weighbridgeref05_word.calls a0_0 false _ A3.out).mono ?_); rintro e w' ⟨rfl, ⟨nd, rfl⟩⟩; refine ⟨_, rfl, ?_⟩))
  go_ret
  exact ⟨RT, BW HB⟩
 subst c4
 first | rw [if_pos rfl] at H | rw [if_pos trivial] at H
 replace H := Option.bind_eq_some_iff.mp H
 obtain ⟨t175, A50, H⟩ := H
 (try set_option simprocs false in dsimp only at H)
 have A5 := Aside0.mk A50
 clear A50
 by_cases c6 : t175 = true
 rotate_left
 ·replace c6 := Bool.eq_false_iff.mpr c6
  subst c6
  have H1 : (some false) = some r := by rw [if_neg (show ¬ (false = true) by decide)] at H; exact H
  clear H
  have H := H1
  clear H1
  obtain rfl := Option.some.inj H
  go_enter Try.func79, Try.ntmps79
  go_wp2_with (first | ((with_reducible refine gate_dst (N := 1) rfl ?_); (try (refine gate_guard (by rfl) ?_; dsimp only)); refine box_event ?hg (N := 1) ?hd (cs := (r8 a0_0 a0_1 a0_2 a0_3 a0_4 a0_5 a0_6 a0_7)) (t := 90) ?hr ?_; (case hd => rfl); (case hg => rfl); (case hr => first | (go_simp; done) | (go_simp; rfl)); intro gb172 hg w29 hbox hb; have n0_ := Aside0.mk (below_step (BW HB) hb); have n1_ := Aside0.mk (hbox); have n2_ := Aside0.mk ((by rw [hg]; exact (below_size (BW HB)) : w.heap.size ≤ gb172)); have n3_ := Aside0.mk ((by rw [hg]; exact (below_size (BW HB)) : w.heap.size ≤ gb172)); clear HB; have HB := n0_; have BK172 := n1_; have GW172 := n2_; have GE172 := n3_; clear n0_ n1_ n2_ n3_; clear hb hbox hg; obtain ⟨hcz30_0, hcz30_1, hcz30_2, hcz30_3, hcz30_4, hcz30_5, hcz30_6, hcz30_7, hfz30_0, hfz30_1, hfz30_2, hfz30_3, hfz30_4, hfz30_5, hfz30_6, hfz30_7⟩ := blk8 BK172.out) | ((with_reducible refine gate_callee (f := 75) rfl ?_); refine goesL_ (some 6) rfl rfl Try.func75 (by kernel_rfl) rfl #[.string a0_7] rfl AG ?_; (with_reducible refine (weighbridgeref04_OptsRight.calls a0_7 t173 _ A2.out).mono ?_); rintro e w' ⟨rfl, ⟨nd, rfl⟩⟩; refine ⟨_, rfl, ?_⟩) | ((with_reducible refine gate_callee (f := 97) rfl ?_); refine goesL_ (some 9) rfl rfl Try.func97 (by kernel_rfl) rfl #[.int .i64 a0_0] rfl AG ?_; (with_reducible refine (weighbridgeref05_word.calls a0_0 true _ A3.out).mono ?_); rintro e w' ⟨rfl, ⟨nd, rfl⟩⟩; refine ⟨_, rfl, ?_⟩) | (go_at_call 97; (with_reducible refine (weighbridgeref05_word.calls a0_1 false _ A5.out).mono ?_); rintro e w' ⟨rfl, ⟨nd, rfl⟩⟩))
  go_ret
  exact ⟨RT, BW HB⟩
 subst c6
 first | rw [if_pos rfl] at H | rw [if_pos trivial] at H
 replace H := Option.bind_eq_some_iff.mp H
 obtain ⟨t176, A70, H⟩ := H
 (try set_option simprocs false in dsimp only at H)
 have A7 := Aside0.mk A70
 clear A70
 by_cases c8 : t176 = true
 rotate_left
 ·replace c8 := Bool.eq_false_iff.mpr c8
  subst c8
  have H1 : (some false) = some r := by rw [if_neg (show ¬ (false = true) by decide)] at H; exact H
  clear H
  have H := H1
  clear H1
  obtain rfl := Option.some.inj H
  go_enter Try.func79, Try.ntmps79
  go_wp2_with (first | ((with_reducible refine gate_dst (N := 1) rfl ?_); (try (refine gate_guard (by rfl) ?_; dsimp only)); refine box_event ?hg (N := 1) ?hd (cs := (r8 a0_0 a0_1 a0_2 a0_3 a0_4 a0_5 a0_6 a0_7)) (t := 90) ?hr ?_; (case hd => rfl); (case hg => rfl); (case hr => first | (go_simp; done) | (go_simp; rfl)); intro gb172 hg w27 hbox hb; have n0_ := Aside0.mk (below_step (BW HB) hb); have n1_ := Aside0.mk (hbox); have n2_ := Aside0.mk ((by rw [hg]; exact (below_size (BW HB)) : w.heap.size ≤ gb172)); have n3_ := Aside0.mk ((by rw [hg]; exact (below_size (BW HB)) : w.heap.size ≤ gb172)); clear HB; have HB := n0_; have BK172 := n1_; have GW172 := n2_; have GE172 := n3_; clear n0_ n1_ n2_ n3_; clear hb hbox hg; obtain ⟨hcz28_0, hcz28_1, hcz28_2, hcz28_3, hcz28_4, hcz28_5, hcz28_6, hcz28_7, hfz28_0, hfz28_1, hfz28_2, hfz28_3, hfz28_4, hfz28_5, hfz28_6, hfz28_7⟩ := blk8 BK172.out) | ((with_reducible refine gate_callee (f := 75) rfl ?_); refine goesL_ (some 6) rfl rfl Try.func75 (by kernel_rfl) rfl #[.string a0_7] rfl AG ?_; (with_reducible refine (weighbridgeref04_OptsRight.calls a0_7 t173 _ A2.out).mono ?_); rintro e w' ⟨rfl, ⟨nd, rfl⟩⟩; refine ⟨_, rfl, ?_⟩) | ((with_reducible refine gate_callee (f := 97) rfl ?_); refine goesL_ (some 9) rfl rfl Try.func97 (by kernel_rfl) rfl #[.int .i64 a0_0] rfl AG ?_; (with_reducible refine (weighbridgeref05_word.calls a0_0 true _ A3.out).mono ?_); rintro e w' ⟨rfl, ⟨nd, rfl⟩⟩; refine ⟨_, rfl, ?_⟩) | (go_at_call 97; (with_reducible refine (weighbridgeref05_word.calls a0_1 true _ A5.out).mono ?_); rintro e w' ⟨rfl, ⟨nd, rfl⟩⟩) | (go_at_call 97; (with_reducible refine (weighbridgeref05_word.calls a0_5 false _ A7.out).mono ?_); rintro e w' ⟨rfl, ⟨nd, rfl⟩⟩))
  go_ret
  exact ⟨RT, BW HB⟩
 subst c8
 first | rw [if_pos rfl] at H | rw [if_pos trivial] at H
 replace H := Option.bind_eq_some_iff.mp H
 obtain ⟨t177, A90, H⟩ := H
 (try set_option simprocs false in dsimp only at H)
 have A9 := Aside0.mk A90
 clear A90
 by_cases c10 : t177 = true
 rotate_left
 ·replace c10 := Bool.eq_false_iff.mpr c10
  subst c10
  have H1 : (some false) = some r := by rw [if_neg (show ¬ (false = true) by decide)] at H; exact H
  clear H
  have H := H1
  clear H1
  obtain rfl := Option.some.inj H
  go_enter Try.func79, Try.ntmps79
  go_wp2_with (first | ((with_reducible refine gate_dst (N := 1) rfl ?_); (try (refine gate_guard (by rfl) ?_; dsimp only)); refine box_event ?hg (N := 1) ?hd (cs := (r8 a0_0 a0_1 a0_2 a0_3 a0_4 a0_5 a0_6 a0_7)) (t := 90) ?hr ?_; (case hd => rfl); (case hg => rfl); (case hr => first | (go_simp; done) | (go_simp; rfl)); intro gb172 hg w25 hbox hb; have n0_ := Aside0.mk (below_step (BW HB) hb); have n1_ := Aside0.mk (hbox); have n2_ := Aside0.mk ((by rw [hg]; exact (below_size (BW HB)) : w.heap.size ≤ gb172)); have n3_ := Aside0.mk ((by rw [hg]; exact (below_size (BW HB)) : w.heap.size ≤ gb172)); clear HB; have HB := n0_; have BK172 := n1_; have GW172 := n2_; have GE172 := n3_; clear n0_ n1_ n2_ n3_; clear hb hbox hg; obtain ⟨hcz26_0, hcz26_1, hcz26_2, hcz26_3, hcz26_4, hcz26_5, hcz26_6, hcz26_7, hfz26_0, hfz26_1, hfz26_2, hfz26_3, hfz26_4, hfz26_5, hfz26_6, hfz26_7⟩ := blk8 BK172.out) | ((with_reducible refine gate_callee (f := 75) rfl ?_); refine goesL_ (some 6) rfl rfl Try.func75 (by kernel_rfl) rfl #[.string a0_7] rfl AG ?_; (with_reducible refine (weighbridgeref04_OptsRight.calls a0_7 t173 _ A2.out).mono ?_); rintro e w' ⟨rfl, ⟨nd, rfl⟩⟩; refine ⟨_, rfl, ?_⟩) | ((with_reducible refine gate_callee (f := 97) rfl ?_); refine goesL_ (some 9) rfl rfl Try.func97 (by kernel_rfl) rfl #[.int .i64 a0_0] rfl AG ?_; (with_reducible refine (weighbridgeref05_word.calls a0_0 true _ A3.out).mono ?_); rintro e w' ⟨rfl, ⟨nd, rfl⟩⟩; refine ⟨_, rfl, ?_⟩) | (go_at_call 97; (with_reducible refine (weighbridgeref05_word.calls a0_1 true _ A5.out).mono ?_); rintro e w' ⟨rfl, ⟨nd, rfl⟩⟩) | (go_at_call 97; (with_reducible refine (weighbridgeref05_word.calls a0_5 true _ A7.out).mono ?_); rintro e w' ⟨rfl, ⟨nd, rfl⟩⟩) | (go_at_call 97; (with_reducible refine (weighbridgeref05_word.calls a0_6 false _ A9.out).mono ?_); rintro e w' ⟨rfl, ⟨nd, rfl⟩⟩))
  go_ret
  exact ⟨RT, BW HB⟩
 subst c10
 first | rw [if_pos rfl] at H | rw [if_pos trivial] at H
 by_cases c11 : a0_4 ≥ 0
 rotate_left
 ·rw [if_neg c11] at H
  have c11b0 : decide (0 ≤ a0_4) = false := decide_eq_false c11
  clear c11
  obtain rfl := Option.some.inj H
  go_enter Try.func79, Try.ntmps79
  go_wp2_with (first | ((with_reducible refine gate_dst (N := 1) rfl ?_); (try (refine gate_guard (by rfl) ?_; dsimp only)); refine box_event ?hg (N := 1) ?hd (cs := (r8 a0_0 a0_1 a0_2 a0_3 a0_4 a0_5 a0_6 a0_7)) (t := 90) ?hr ?_; (case hd => rfl); (case hg => rfl); (case hr => first | (go_simp; done) | (go_simp; rfl)); intro gb172 hg w23 hbox hb; have n0_ := Aside0.mk (below_step (BW HB) hb); have n1_ := Aside0.mk (hbox); have n2_ := Aside0.mk ((by rw [hg]; exact (below_size (BW HB)) : w.heap.size ≤ gb172)); have n3_ := Aside0.mk ((by rw [hg]; exact (below_size (BW HB)) : w.heap.size ≤ gb172)); clear HB; have HB := n0_; have BK172 := n1_; have GW172 := n2_; have GE172 := n3_; clear n0_ n1_ n2_ n3_; clear hb hbox hg; obtain ⟨hcz24_0, hcz24_1, hcz24_2, hcz24_3, hcz24_4, hcz24_5, hcz24_6, hcz24_7, hfz24_0, hfz24_1, hfz24_2, hfz24_3, hfz24_4, hfz24_5, hfz24_6, hfz24_7⟩ := blk8 BK172.out) | ((with_reducible refine gate_callee (f := 75) rfl ?_); refine goesL_ (some 6) rfl rfl Try.func75 (by kernel_rfl) rfl #[.string a0_7] rfl AG ?_; (with_reducible refine (weighbridgeref04_OptsRight.calls a0_7 t173 _ A2.out).mono ?_); rintro e w' ⟨rfl, ⟨nd, rfl⟩⟩; refine ⟨_, rfl, ?_⟩) | ((with_reducible refine gate_callee (f := 97) rfl ?_); refine goesL_ (some 9) rfl rfl Try.func97 (by kernel_rfl) rfl #[.int .i64 a0_0] rfl AG ?_; (with_reducible refine (weighbridgeref05_word.calls a0_0 true _ A3.out).mono ?_); rintro e w' ⟨rfl, ⟨nd, rfl⟩⟩; refine ⟨_, rfl, ?_⟩) | (go_at_call 97; (with_reducible refine (weighbridgeref05_word.calls a0_1 true _ A5.out).mono ?_); rintro e w' ⟨rfl, ⟨nd, rfl⟩⟩) | (go_at_call 97; (with_reducible refine (weighbridgeref05_word.calls a0_5 true _ A7.out).mono ?_); rintro e w' ⟨rfl, ⟨nd, rfl⟩⟩) | (go_at_call 97; (with_reducible refine (weighbridgeref05_word.calls a0_6 true _ A9.out).mono ?_); rintro e w' ⟨rfl, ⟨nd, rfl⟩⟩))
  go_ret
  exact ⟨RT, BW HB⟩
 rw [if_pos c11] at H
 have c11b0 : decide (0 ≤ a0_4) = true := decide_eq_true c11
 clear c11
 by_cases c12 : a0_4 ≤ 4095
 rotate_left
 ·rw [if_neg c12] at H
  have c12b0 : decide (a0_4 ≤ 4095) = false := decide_eq_false c12
  clear c12
  obtain rfl := Option.some.inj H
  go_enter Try.func79, Try.ntmps79
  go_wp2_with (first | ((with_reducible refine gate_dst (N := 1) rfl ?_); (try (refine gate_guard (by rfl) ?_; dsimp only)); refine box_event ?hg (N := 1) ?hd (cs := (r8 a0_0 a0_1 a0_2 a0_3 a0_4 a0_5 a0_6 a0_7)) (t := 90) ?hr ?_; (case hd => rfl); (case hg => rfl); (case hr => first | (go_simp; done) | (go_simp; rfl)); intro gb172 hg w21 hbox hb; have n0_ := Aside0.mk (below_step (BW HB) hb); have n1_ := Aside0.mk (hbox); have n2_ := Aside0.mk ((by rw [hg]; exact (below_size (BW HB)) : w.heap.size ≤ gb172)); have n3_ := Aside0.mk ((by rw [hg]; exact (below_size (BW HB)) : w.heap.size ≤ gb172)); clear HB; have HB := n0_; have BK172 := n1_; have GW172 := n2_; have GE172 := n3_; clear n0_ n1_ n2_ n3_; clear hb hbox hg; obtain ⟨hcz22_0, hcz22_1, hcz22_2, hcz22_3, hcz22_4, hcz22_5, hcz22_6, hcz22_7, hfz22_0, hfz22_1, hfz22_2, hfz22_3, hfz22_4, hfz22_5, hfz22_6, hfz22_7⟩ := blk8 BK172.out) | ((with_reducible refine gate_callee (f := 75) rfl ?_); refine goesL_ (some 6) rfl rfl Try.func75 (by kernel_rfl) rfl #[.string a0_7] rfl AG ?_; (with_reducible refine (weighbridgeref04_OptsRight.calls a0_7 t173 _ A2.out).mono ?_); rintro e w' ⟨rfl, ⟨nd, rfl⟩⟩; refine ⟨_, rfl, ?_⟩) | ((with_reducible refine gate_callee (f := 97) rfl ?_); refine goesL_ (some 9) rfl rfl Try.func97 (by kernel_rfl) rfl #[.int .i64 a0_0] rfl AG ?_; (with_reducible refine (weighbridgeref05_word.calls a0_0 true _ A3.out).mono ?_); rintro e w' ⟨rfl, ⟨nd, rfl⟩⟩; refine ⟨_, rfl, ?_⟩) | (go_at_call 97; (with_reducible refine (weighbridgeref05_word.calls a0_1 true _ A5.out).mono ?_); rintro e w' ⟨rfl, ⟨nd, rfl⟩⟩) | (go_at_call 97; (with_reducible refine (weighbridgeref05_word.calls a0_5 true _ A7.out).mono ?_); rintro e w' ⟨rfl, ⟨nd, rfl⟩⟩) | (go_at_call 97; (with_reducible refine (weighbridgeref05_word.calls a0_6 true _ A9.out).mono ?_); rintro e w' ⟨rfl, ⟨nd, rfl⟩⟩))
  go_ret
  exact ⟨RT, BW HB⟩
 rw [if_pos c12] at H
 have c12b0 : decide (a0_4 ≤ 4095) = true := decide_eq_true c12
 clear c12
 by_cases c13 : (a0_7.size : Int) ≤ 40
 ·rw [if_pos c13] at H
  have c13b0 : decide ((a0_7.size : Int) ≤ 40) = true := decide_eq_true c13
  have c13b1 : decide (a0_7.size ≤ 40) = true := decide_eq_true (by omega)
  clear c13
  by_cases c14 : ((a0_7.size : Int) % 4) = 0
  ·rw [if_pos c14] at H
   have c14b0 : (((a0_7.size : Int) % 4) == 0) = true := beq_iff_eq.mpr c14
   have c14b1 : (((a0_7.size : Int) % 4) != 0) = false := bne_eq_false_iff_eq.mpr c14
   clear c14
   obtain rfl := Option.some.inj H
   go_enter Try.func79, Try.ntmps79
   go_wp2_with (first | ((with_reducible refine gate_dst (N := 1) rfl ?_); (try (refine gate_guard (by rfl) ?_; dsimp only)); refine box_event ?hg (N := 1) ?hd (cs := (r8 a0_0 a0_1 a0_2 a0_3 a0_4 a0_5 a0_6 a0_7)) (t := 90) ?hr ?_; (case hd => rfl); (case hg => rfl); (case hr => first | (go_simp; done) | (go_simp; rfl)); intro gb172 hg w15 hbox hb; have n0_ := Aside0.mk (below_step (BW HB) hb); have n1_ := Aside0.mk (hbox); have n2_ := Aside0.mk ((by rw [hg]; exact (below_size (BW HB)) : w.heap.size ≤ gb172)); have n3_ := Aside0.mk ((by rw [hg]; exact (below_size (BW HB)) : w.heap.size ≤ gb172)); clear HB; have HB := n0_; have BK172 := n1_; have GW172 := n2_; have GE172 := n3_; clear n0_ n1_ n2_ n3_; clear hb hbox hg; obtain ⟨hcz16_0, hcz16_1, hcz16_2, hcz16_3, hcz16_4, hcz16_5, hcz16_6, hcz16_7, hfz16_0, hfz16_1, hfz16_2, hfz16_3, hfz16_4, hfz16_5, hfz16_6, hfz16_7⟩ := blk8 BK172.out) | ((with_reducible refine gate_callee (f := 75) rfl ?_); refine goesL_ (some 6) rfl rfl Try.func75 (by kernel_rfl) rfl #[.string a0_7] rfl AG ?_; (with_reducible refine (weighbridgeref04_OptsRight.calls a0_7 t173 _ A2.out).mono ?_); rintro e w' ⟨rfl, ⟨nd, rfl⟩⟩; refine ⟨_, rfl, ?_⟩) | ((with_reducible refine gate_callee (f := 97) rfl ?_); refine goesL_ (some 9) rfl rfl Try.func97 (by kernel_rfl) rfl #[.int .i64 a0_0] rfl AG ?_; (with_reducible refine (weighbridgeref05_word.calls a0_0 true _ A3.out).mono ?_); rintro e w' ⟨rfl, ⟨nd, rfl⟩⟩; refine ⟨_, rfl, ?_⟩) | (go_at_call 97; (with_reducible refine (weighbridgeref05_word.calls a0_1 true _ A5.out).mono ?_); rintro e w' ⟨rfl, ⟨nd, rfl⟩⟩) | (go_at_call 97; (with_reducible refine (weighbridgeref05_word.calls a0_5 true _ A7.out).mono ?_); rintro e w' ⟨rfl, ⟨nd, rfl⟩⟩) | (go_at_call 97; (with_reducible refine (weighbridgeref05_word.calls a0_6 true _ A9.out).mono ?_); rintro e w' ⟨rfl, ⟨nd, rfl⟩⟩))
   go_ret
   exact ⟨RT, BW HB⟩
  rw [if_neg c14] at H
  have c14b0 : (((a0_7.size : Int) % 4) == 0) = false := beq_eq_false_iff_ne.mpr c14
  have c14b1 : (((a0_7.size : Int) % 4) != 0) = true := bne_iff_ne.mpr c14
  obtain rfl := Option.some.inj H
  go_enter Try.func79, Try.ntmps79
  go_wp2_with (first | ((with_reducible refine gate_dst (N := 1) rfl ?_); (try (refine gate_guard (by rfl) ?_; dsimp only)); refine box_event ?hg (N := 1) ?hd (cs := (r8 a0_0 a0_1 a0_2 a0_3 a0_4 a0_5 a0_6 a0_7)) (t := 90) ?hr ?_; (case hd => rfl); (case hg => rfl); (case hr => first | (go_simp; done) | (go_simp; rfl)); intro gb172 hg w17 hbox hb; have n0_ := Aside0.mk (below_step (BW HB) hb); have n1_ := Aside0.mk (hbox); have n2_ := Aside0.mk ((by rw [hg]; exact (below_size (BW HB)) : w.heap.size ≤ gb172)); have n3_ := Aside0.mk ((by rw [hg]; exact (below_size (BW HB)) : w.heap.size ≤ gb172)); clear HB; have HB := n0_; have BK172 := n1_; have GW172 := n2_; have GE172 := n3_; clear n0_ n1_ n2_ n3_; clear hb hbox hg; obtain ⟨hcz18_0, hcz18_1, hcz18_2, hcz18_3, hcz18_4, hcz18_5, hcz18_6, hcz18_7, hfz18_0, hfz18_1, hfz18_2, hfz18_3, hfz18_4, hfz18_5, hfz18_6, hfz18_7⟩ := blk8 BK172.out) | ((with_reducible refine gate_callee (f := 75) rfl ?_); refine goesL_ (some 6) rfl rfl Try.func75 (by kernel_rfl) rfl #[.string a0_7] rfl AG ?_; (with_reducible refine (weighbridgeref04_OptsRight.calls a0_7 t173 _ A2.out).mono ?_); rintro e w' ⟨rfl, ⟨nd, rfl⟩⟩; refine ⟨_, rfl, ?_⟩) | ((with_reducible refine gate_callee (f := 97) rfl ?_); refine goesL_ (some 9) rfl rfl Try.func97 (by kernel_rfl) rfl #[.int .i64 a0_0] rfl AG ?_; (with_reducible refine (weighbridgeref05_word.calls a0_0 true _ A3.out).mono ?_); rintro e w' ⟨rfl, ⟨nd, rfl⟩⟩; refine ⟨_, rfl, ?_⟩) | (go_at_call 97; (with_reducible refine (weighbridgeref05_word.calls a0_1 true _ A5.out).mono ?_); rintro e w' ⟨rfl, ⟨nd, rfl⟩⟩) | (go_at_call 97; (with_reducible refine (weighbridgeref05_word.calls a0_5 true _ A7.out).mono ?_); rintro e w' ⟨rfl, ⟨nd, rfl⟩⟩) | (go_at_call 97; (with_reducible refine (weighbridgeref05_word.calls a0_6 true _ A9.out).mono ?_); rintro e w' ⟨rfl, ⟨nd, rfl⟩⟩))
  go_ret
  exact ⟨RT, BW HB⟩
 rw [if_neg c13] at H
 have c13b0 : decide ((a0_7.size : Int) ≤ 40) = false := decide_eq_false c13
 have c13b1 : decide (a0_7.size ≤ 40) = false := decide_eq_false (by omega)
 clear c13
 obtain rfl := Option.some.inj H
 go_enter Try.func79, Try.ntmps79
 go_wp2_with (first | ((with_reducible refine gate_dst (N := 1) rfl ?_); (try (refine gate_guard (by rfl) ?_; dsimp only)); refine box_event ?hg (N := 1) ?hd (cs := (r8 a0_0 a0_1 a0_2 a0_3 a0_4 a0_5 a0_6 a0_7)) (t := 90) ?hr ?_; (case hd => rfl); (case hg => rfl); (case hr => first | (go_simp; done) | (go_simp; rfl)); intro gb172 hg w19 hbox hb; have n0_ := Aside0.mk (below_step (BW HB) hb); have n1_ := Aside0.mk (hbox); have n2_ := Aside0.mk ((by rw [hg]; exact (below_size (BW HB)) : w.heap.size ≤ gb172)); have n3_ := Aside0.mk ((by rw [hg]; exact (below_size (BW HB)) : w.heap.size ≤ gb172)); clear HB; have HB := n0_; have BK172 := n1_; have GW172 := n2_; have GE172 := n3_; clear n0_ n1_ n2_ n3_; clear hb hbox hg; obtain ⟨hcz20_0, hcz20_1, hcz20_2, hcz20_3, hcz20_4, hcz20_5, hcz20_6, hcz20_7, hfz20_0, hfz20_1, hfz20_2, hfz20_3, hfz20_4, hfz20_5, hfz20_6, hfz20_7⟩ := blk8 BK172.out) | ((with_reducible refine gate_callee (f := 75) rfl ?_); refine goesL_ (some 6) rfl rfl Try.func75 (by kernel_rfl) rfl #[.string a0_7] rfl AG ?_; (with_reducible refine (weighbridgeref04_OptsRight.calls a0_7 t173 _ A2.out).mono ?_); rintro e w' ⟨rfl, ⟨nd, rfl⟩⟩; refine ⟨_, rfl, ?_⟩) | ((with_reducible refine gate_callee (f := 97) rfl ?_); refine goesL_ (some 9) rfl rfl Try.func97 (by kernel_rfl) rfl #[.int .i64 a0_0] rfl AG ?_; (with_reducible refine (weighbridgeref05_word.calls a0_0 true _ A3.out).mono ?_); rintro e w' ⟨rfl, ⟨nd, rfl⟩⟩; refine ⟨_, rfl, ?_⟩) | (go_at_call 97; (with_reducible refine (weighbridgeref05_word.calls a0_1 true _ A5.out).mono ?_); rintro e w' ⟨rfl, ⟨nd, rfl⟩⟩) | (go_at_call 97; (with_reducible refine (weighbridgeref05_word.calls a0_5 true _ A7.out).mono ?_); rintro e w' ⟨rfl, ⟨nd, rfl⟩⟩) | (go_at_call 97; (with_reducible refine (weighbridgeref05_word.calls a0_6 true _ A9.out).mono ?_); rintro e w' ⟨rfl, ⟨nd, rfl⟩⟩))
 go_ret
 exact ⟨RT, BW HB⟩

theorem r5_word (n : Int) : weighbridgeref05_word.f n = some (Sp.fits 2 n) := by
 have f : Sp.fits 2 n = decide (0 ≤ n ∧ n ≤ 65535) := Sp.fits2_b
 unfold weighbridgeref05_word.f
 rw [f]
 by_cases h : n ≥ 0
 ·rw [if_pos h]
  by_cases h2 : n ≤ 65535
  ·rw [decide_eq_true h2, decide_eq_true (by omega : 0 ≤ n ∧ n ≤ 65535)]
  rw [decide_eq_false h2, decide_eq_false (by omega : ¬ (0 ≤ n ∧ n ≤ 65535))]
 rw [if_neg h, decide_eq_false (by omega : ¬ (0 ≤ n ∧ n ≤ 65535))]
theorem r5_right_no {a b c d e : Int} {o : List UInt8} (h : ¬ Sp.tcpRight a b c d e o = true) : Sp.tcpRight a b c d e o = false := Sp.bool_no h
def weighbridgeref05_Right.f (a0_0 a0_1 a0_2 a0_3 a0_4 a0_5 a0_6 : Int) (a0_7 : ByteArray) : Option Bool := if a0_7.size ≤ 140737488355328 then some (Sp.tcpRight a0_0 a0_1 a0_4 a0_5 a0_6 (bl a0_7)) else none
theorem weighbridgeref05_Right_eq {a0_0 a0_1 a0_2 a0_3 a0_4 a0_5 a0_6 : Int} {a0_7 : ByteArray} (h : a0_7.size ≤ 140737488355328) : weighbridgeref05_Right.f a0_0 a0_1 a0_2 a0_3 a0_4 a0_5 a0_6 a0_7 = some (Sp.tcpRight a0_0 a0_1 a0_4 a0_5 a0_6 (bl a0_7)) := by unfold weighbridgeref05_Right.f; exact if_pos h
theorem weighbridgeref05_Right_ev (a0_0 a0_1 a0_2 a0_3 a0_4 a0_5 a0_6 : Int) (a0_7 : ByteArray) (r : Bool) (h : weighbridgeref05_Right.f a0_0 a0_1 a0_2 a0_3 a0_4 a0_5 a0_6 a0_7 = some r) : weighbridgeref05_Right_p.f a0_0 a0_1 a0_2 a0_3 a0_4 a0_5 a0_6 a0_7 = some r := by
 unfold weighbridgeref05_Right.f at h
 split at h
 case isFalse => cases h
 case isTrue hs =>
  rw [← h]
  unfold weighbridgeref05_Right_p.f
  have hl := bl_length a0_7
  rw [weighbridgeref04_OptsRight_eq hs, Option.bind_some, r5_word, Option.bind_some]
  by_cases h1 : Sp.fits 2 a0_0 = true
  rotate_left
  ·rw [if_neg h1, r5_right_no (fun h => h1 (Sp.tcpRight_iff.1 h).1)]
  rw [if_pos h1, r5_word, Option.bind_some]
  by_cases h2 : Sp.fits 2 a0_1 = true
  rotate_left
  ·rw [if_neg h2, r5_right_no (fun h => h2 (Sp.tcpRight_iff.1 h).2.1)]
  rw [if_pos h2, r5_word, Option.bind_some]
  by_cases h3 : Sp.fits 2 a0_5 = true
  rotate_left
  ·rw [if_neg h3, r5_right_no (fun h => h3 (Sp.tcpRight_iff.1 h).2.2.1)]
  rw [if_pos h3, r5_word, Option.bind_some]
  by_cases h4 : Sp.fits 2 a0_6 = true
  ·rw [if_pos h4]
   by_cases h5 : a0_4 ≥ 0
   ·rw [if_pos h5]
    by_cases h6 : a0_4 ≤ 4095
    ·rw [if_pos h6]
     by_cases h7 : (a0_7.size : Int) ≤ 40
     ·rw [if_pos h7]
      by_cases h8 : ((a0_7.size : Int) % 4) = 0
      ·rw [if_pos h8]
       by_cases h9 : Sp.optsOk (bl a0_7) = true
       ·rw [h9, Sp.tcpRight_iff.2 ⟨h1, h2, h3, h4, ⟨by omega, by omega⟩, ⟨by omega, by omega⟩, h9⟩]
       rw [Sp.bool_no h9, r5_right_no (fun h => h9 (Sp.tcpRight_iff.1 h).2.2.2.2.2.2)]
      rw [if_neg h8, r5_right_no (fun h => by have := (Sp.tcpRight_iff.1 h).2.2.2.2.2.1; omega)]
     rw [if_neg h7, r5_right_no (fun h => by have := (Sp.tcpRight_iff.1 h).2.2.2.2.2.1; omega)]
    rw [if_neg h6, r5_right_no (fun h => by have := (Sp.tcpRight_iff.1 h).2.2.2.2.1; omega)]
   rw [if_neg h5, r5_right_no (fun h => by have := (Sp.tcpRight_iff.1 h).2.2.2.2.1; omega)]
  rw [if_neg h4, r5_right_no (fun h => h4 (Sp.tcpRight_iff.1 h).2.2.2.1)]
theorem weighbridgeref05_Right.calls (a0_0 : Int) (a0_1 : Int) (a0_2 : Int) (a0_3 : Int) (a0_4 : Int) (a0_5 : Int) (a0_6 : Int) (a0_7 : ByteArray) (r : Bool) (w : World) (h : weighbridgeref05_Right.f a0_0 a0_1 a0_2 a0_3 a0_4 a0_5 a0_6 a0_7 = some r) :
  Calls Try.prog 79 #[.agg #[.int .i64 a0_0, .int .i64 a0_1, .int .u32 a0_2, .int .u32 a0_3, .int .i64 a0_4, .int .i64 a0_5, .int .i64 a0_6, .string a0_7]] w fun e w' => e = .returned (.bool r) ∧ Below w.heap.size w w' := by
 have hk := weighbridgeref05_Right_ev a0_0 a0_1 a0_2 a0_3 a0_4 a0_5 a0_6 a0_7 _ h
 exact weighbridgeref05_Right_p.calls a0_0 a0_1 a0_2 a0_3 a0_4 a0_5 a0_6 a0_7 r w hk

/-! ### weighbridgeref05_num: function 80 -/
def weighbridgeref05_num.f (a0 : Int) (a1 : Int) : Option (ByteArray) := (weighbridgeref04_Num.f a0 a1).bind fun t178 => (some t178)
set_option maxHeartbeats 8000000 in
set_option maxRecDepth 100000 in
theorem weighbridgeref05_num.calls (a0 : Int) (a1 : Int) (r : ByteArray) (w : World) (h : weighbridgeref05_num.f a0 a1 = some r) :
  Calls Try.prog 80 #[.int .i64 a0, .int .i64 a1] w fun e w' => e = .returned (.string r) ∧ Below w.heap.size w w' := by
 have HB := Aside0.mk (Below.refl w.heap.size w)
 have H : ((weighbridgeref04_Num.f a0 a1).bind fun t178 => (some t178)) = some r := h
 clear h
 replace H := Option.bind_eq_some_iff.mp H
 obtain ⟨t178, A30, H⟩ := H
 (try set_option simprocs false in dsimp only at H)
 have A3 := Aside0.mk A30
 clear A30
 obtain rfl := Option.some.inj H
 go_enter Try.func80, Try.ntmps80
 go_wp2_with (first | ((with_reducible refine gate_callee (f := 41) rfl ?_); refine goesL_ (some 7) rfl rfl Try.func41 (by kernel_rfl) rfl #[.int .i64 a0, .int .i64 a1] rfl AG ?_; (with_reducible refine (weighbridgeref04_Num.calls a0 a1 t178 _ A3.out).mono ?_); rintro e w4 ⟨rfl, hb⟩; (try clear A3); refine ⟨_, rfl, ?_⟩; have n0_ := Aside0.mk (below_step (BW HB) hb); clear HB; have HB := n0_; clear n0_; (try clear hb)))
 go_ret
 exact ⟨RT, BW HB⟩

/-! ### weighbridgeref05_Build_p: function 43 -/
def weighbridgeref05_Build_p.f (a0_0 : Int) (a0_1 : Int) (a0_2 : Int) (a0_3 : Int) (a0_4 : Int) (a0_5 : Int) (a0_6 : Int) (a0_7 : ByteArray) (a1 : ByteArray) : Option (ByteArray × Int) := (weighbridgeref05_Right.f a0_0 a0_1 a0_2 a0_3 a0_4 a0_5 a0_6 a0_7).bind fun t180 => (if t180 = true then (if (wrap64 ((wrap64 (20 + (a0_7.size : Int))) + (a1.size : Int))) > 1500 then (some ((⟨#[]⟩ : ByteArray), 18)) else ((weighbridgeref05_num.f 2 a0_0).bind fun t181 => ((weighbridgeref05_num.f 2 a0_1).bind fun t182 => (if t181.size + t182.size ≤ 9223372036854775807 then ((weighbridgeref05_num.f 4 (wrap64 (a0_2))).bind fun t183 => (if (t181 ++ t182).size + t183.size ≤ 9223372036854775807 then ((weighbridgeref05_num.f 4 (wrap64 (a0_3))).bind fun t184 => (if ((t181 ++ t182) ++ t183).size + t184.size ≤ 9223372036854775807 then ((weighbridgeref05_num.f 2 (wrap64 ((wrap64 (4096 * (wrap64 (Int.tdiv (wrap64 (20 + (a0_7.size : Int))) 4)))) + a0_4))).bind fun t185 => (if (((t181 ++ t182) ++ t183) ++ t184).size + t185.size ≤ 9223372036854775807 then ((weighbridgeref05_num.f 2 a0_5).bind fun t186 => (if ((((t181 ++ t182) ++ t183) ++ t184) ++ t185).size + t186.size ≤ 9223372036854775807 then (if (((((t181 ++ t182) ++ t183) ++ t184) ++ t185) ++ t186).size + 2 ≤ 9223372036854775807 then ((weighbridgeref05_num.f 2 a0_6).bind fun t187 => (if ((((((t181 ++ t182) ++ t183) ++ t184) ++ t185) ++ t186) ++ (⟨#[0, 0]⟩ : ByteArray)).size + t187.size ≤ 9223372036854775807 then (if (((((((t181 ++ t182) ++ t183) ++ t184) ++ t185) ++ t186) ++ (⟨#[0, 0]⟩ : ByteArray)) ++ t187).size + a0_7.size ≤ 9223372036854775807 then (if ((((((((t181 ++ t182) ++ t183) ++ t184) ++ t185) ++ t186) ++ (⟨#[0, 0]⟩ : ByteArray)) ++ t187) ++ a0_7).size + a1.size ≤ 9223372036854775807 then (some (((((((((t181 ++ t182) ++ t183) ++ t184) ++ t185) ++ t186) ++ (⟨#[0, 0]⟩ : ByteArray)) ++ t187) ++ a0_7) ++ a1, 0)) else (none)) else (none)) else (none))) else (none)) else (none))) else (none))) else (none))) else (none))) else (none))))) else (some ((⟨#[]⟩ : ByteArray), 1)))
def weighbridgeref05_Build_p.T7 : Bool × List (List Nat × List Nat) := (true, [([], []), ([0], [0]), ([1], [1]), ([], []), ([3], [3]), ([4, 2], [4]), ([2, 5], [2, 5]), ([], []), ([7], [7]), ([8], [8]), ([9, 5], [9]), ([6, 10], [6, 10]), ([], []), ([12], [12]), ([13], [13]), ([14, 10], [14]), ([11, 15], [11, 15]), ([], []), ([17], [17]), ([18], [18]), ([], []), ([20], [20]), ([19, 21], [19, 21]), ([22, 15], [22]), ([16, 23], [16, 23]), ([], []), ([25], [25]), ([26, 23], [26]), ([24, 27], [24, 27]), ([28], [28]), ([], []), ([30], [30]), ([31, 27], [31]), ([29, 32], [29, 32]), ([], []), ([34], [34]), ([33, 35], [33, 35]), ([], []), ([36, 37], [36, 37]), ([38, 32, 0, 1, 2, 3, 4, 5, 6, 7, 8, 9, 10, 11, 12, 13, 14, 15, 16, 17, 18, 19, 20, 21, 22, 23, 24, 25, 26, 27, 28, 29, 30, 31, 32, 33, 34, 35, 36, 37, 38], [38]), ([39, 0, 1, 2, 3, 4, 5, 6, 7, 8, 9, 10, 11, 12, 13, 14, 15, 16, 17, 18, 19, 20, 21, 22, 23, 24, 25, 26, 27, 28, 29, 30, 31, 32, 33, 34, 35, 36, 37, 38, 39], [])])
def weighbridgeref05_Build_p.B7 : List Nat := [0, 1, 3, 0, 8, 31, 63, 0, 128, 384, 959, 2047, 0, 4096, 12288, 30655, 65535, 0, 131072, 393216, 0, 1048576, 4063232, 8320959, 16777215, 0, 33554432, 117372863, 268435455, 536870911, 0, 1073741824, 3472816063, 8589934591, 0, 17179869184, 68719476735, 0, 274877906943, 549755813887, 1099511627775]
theorem weighbridgeref05_Build_p.tab7 : rtab .any (opsOf Try.f43 7) = weighbridgeref05_Build_p.T7 := by kernel_rfl
theorem weighbridgeref05_Build_p.bits7 : waitsOk weighbridgeref05_Build_p.T7.2 weighbridgeref05_Build_p.B7 = true := by kernel_rfl
set_option maxHeartbeats 8000000 in
set_option maxRecDepth 100000 in
theorem weighbridgeref05_Build_p.calls (a0_0 : Int) (a0_1 : Int) (a0_2 : Int) (a0_3 : Int) (a0_4 : Int) (a0_5 : Int) (a0_6 : Int) (a0_7 : ByteArray) (a1 : ByteArray) (r1 : ByteArray) (r2 : Int) (w : World) (h : weighbridgeref05_Build_p.f a0_0 a0_1 a0_2 a0_3 a0_4 a0_5 a0_6 a0_7 a1 = some (r1, r2)) :
  Calls Try.prog 43 #[.agg #[.int .i64 a0_0, .int .i64 a0_1, .int .u32 a0_2, .int .u32 a0_3, .int .i64 a0_4, .int .i64 a0_5, .int .i64 a0_6, .string a0_7], .string a1] w fun e w' => e = .returned (.tuple #[.string r1, .int .i64 r2]) ∧ Below w.heap.size w w' := by
 have hu90 := Try.underlying90
 have HB := Aside0.mk (Below.refl w.heap.size w)
 have H := h
 unfold weighbridgeref05_Build_p.f at H
 clear h
 replace H := Option.bind_eq_some_iff.mp H
 obtain ⟨t180, A30, H⟩ := H
 (try set_option simprocs false in dsimp only at H)
 have A3 := Aside0.mk A30
 clear A30
 by_cases c4 : t180 = true
 rotate_left
 ·replace c4 := Bool.eq_false_iff.mpr c4
  subst c4
  have H1 : (some ((⟨#[]⟩ : ByteArray), 1)) = some (r1, r2) := by rw [if_neg (show ¬ (false = true) by decide)] at H; exact H
  clear H
  have H := H1
  clear H1
  simp only [Option.some.injEq, Prod.mk.injEq] at H
  obtain ⟨rfl, rfl⟩ := H
  go_enter Try.func43, Try.ntmps43
  go_wp2_with (first | ((with_reducible refine gate_dst (N := 2) rfl ?_); refine box_event ?hg (N := 2) ?hd (cs := (r8 a0_0 a0_1 a0_2 a0_3 a0_4 a0_5 a0_6 a0_7)) (t := 90) ?hr ?_; (case hd => rfl); (case hg => rfl); (case hr => first | (go_simp; done) | (go_simp; rfl)); intro gb179 hg w38 hbox hb; have n0_ := Aside0.mk (below_step (BW HB) hb); have n1_ := Aside0.mk (hbox); have n2_ := Aside0.mk ((by rw [hg]; exact (below_size (BW HB)) : w.heap.size ≤ gb179)); have n3_ := Aside0.mk ((by rw [hg]; exact (below_size (BW HB)) : w.heap.size ≤ gb179)); clear HB; have HB := n0_; have BK179 := n1_; have GW179 := n2_; have GE179 := n3_; clear n0_ n1_ n2_ n3_; clear hb hbox hg; obtain ⟨hcz39_0, hcz39_1, hcz39_2, hcz39_3, hcz39_4, hcz39_5, hcz39_6, hcz39_7, hfz39_0, hfz39_1, hfz39_2, hfz39_3, hfz39_4, hfz39_5, hfz39_6, hfz39_7⟩ := blk8 BK179.out) | ((with_reducible refine gate_callee (f := 79) rfl ?_); refine goesL_ (some 9) rfl rfl Try.func79 (by kernel_rfl) rfl #[.agg #[.int .i64 a0_0, .int .i64 a0_1, .int .u32 a0_2, .int .u32 a0_3, .int .i64 a0_4, .int .i64 a0_5, .int .i64 a0_6, .string a0_7]] rfl AG ?_; (with_reducible refine (weighbridgeref05_Right.calls a0_0 a0_1 a0_2 a0_3 a0_4 a0_5 a0_6 a0_7 false _ A3.out).mono ?_); rintro e w40 ⟨rfl, hb⟩; (try clear A3); refine ⟨_, rfl, ?_⟩; have n0_ := Aside0.mk (blkB BK179 hb); have n1_ := Aside0.mk (below_step (BW HB) hb); clear BK179; clear HB; have BK179 := n0_; have HB := n1_; clear n0_ n1_; (try clear hb)))
  go_ret2
  exact ⟨RT, BW HB⟩
 subst c4
 first | rw [if_pos rfl] at H | rw [if_pos trivial] at H
 by_cases c5 : (wrap64 ((wrap64 (20 + (a0_7.size : Int))) + (a1.size : Int))) > 1500
 ·rw [if_pos c5] at H
  have c5b0 : decide (1500 < (wrap64 ((wrap64 (20 + (a0_7.size : Int))) + (a1.size : Int)))) = true := decide_eq_true c5
  clear c5
  simp only [Option.some.injEq, Prod.mk.injEq] at H
  obtain ⟨rfl, rfl⟩ := H
  go_enter Try.func43, Try.ntmps43
  go_wp2_with (first | ((with_reducible refine gate_dst (N := 2) rfl ?_); refine box_event ?hg (N := 2) ?hd (cs := (r8 a0_0 a0_1 a0_2 a0_3 a0_4 a0_5 a0_6 a0_7)) (t := 90) ?hr ?_; (case hd => rfl); (case hg => rfl); (case hr => first | (go_simp; done) | (go_simp; rfl)); intro gb179 hg w6 hbox hb; have n0_ := Aside0.mk (below_step (BW HB) hb); have n1_ := Aside0.mk (hbox); have n2_ := Aside0.mk ((by rw [hg]; exact (below_size (BW HB)) : w.heap.size ≤ gb179)); have n3_ := Aside0.mk ((by rw [hg]; exact (below_size (BW HB)) : w.heap.size ≤ gb179)); clear HB; have HB := n0_; have BK179 := n1_; have GW179 := n2_; have GE179 := n3_; clear n0_ n1_ n2_ n3_; clear hb hbox hg; obtain ⟨hcz7_0, hcz7_1, hcz7_2, hcz7_3, hcz7_4, hcz7_5, hcz7_6, hcz7_7, hfz7_0, hfz7_1, hfz7_2, hfz7_3, hfz7_4, hfz7_5, hfz7_6, hfz7_7⟩ := blk8 BK179.out) | ((with_reducible refine gate_callee (f := 79) rfl ?_); refine goesL_ (some 9) rfl rfl Try.func79 (by kernel_rfl) rfl #[.agg #[.int .i64 a0_0, .int .i64 a0_1, .int .u32 a0_2, .int .u32 a0_3, .int .i64 a0_4, .int .i64 a0_5, .int .i64 a0_6, .string a0_7]] rfl AG ?_; (with_reducible refine (weighbridgeref05_Right.calls a0_0 a0_1 a0_2 a0_3 a0_4 a0_5 a0_6 a0_7 true _ A3.out).mono ?_); rintro e w8 ⟨rfl, hb⟩; (try clear A3); refine ⟨_, rfl, ?_⟩; have n0_ := Aside0.mk (blkB BK179 hb); have n1_ := Aside0.mk (below_step (BW HB) hb); clear BK179; clear HB; have BK179 := n0_; have HB := n1_; clear n0_ n1_; (try clear hb); obtain ⟨hcz9_0, hcz9_1, hcz9_2, hcz9_3, hcz9_4, hcz9_5, hcz9_6, hcz9_7, hfz9_0, hfz9_1, hfz9_2, hfz9_3, hfz9_4, hfz9_5, hfz9_6, hfz9_7⟩ := blk8 BK179.out))
  go_ret2
  exact ⟨RT, BW HB⟩
 rw [if_neg c5] at H
 have c5b0 : decide (1500 < (wrap64 ((wrap64 (20 + (a0_7.size : Int))) + (a1.size : Int)))) = false := decide_eq_false c5
 clear c5
 replace H := Option.bind_eq_some_iff.mp H
 obtain ⟨t181, A100, H⟩ := H
 (try set_option simprocs false in dsimp only at H)
 have A10 := Aside0.mk A100
 clear A100
 replace H := Option.bind_eq_some_iff.mp H
 obtain ⟨t182, A110, H⟩ := H
 (try set_option simprocs false in dsimp only at H)
 have A11 := Aside0.mk A110
 clear A110
 by_cases c12 : t181.size + t182.size ≤ 9223372036854775807
 rotate_left
 ·rw [if_neg c12] at H
  exact absurd H (by simp)
 rw [if_pos c12] at H
 have c12b0 := eq_true c12
 have c12b1 : decide (t181.size + t182.size ≤ 9223372036854775807) = true := decide_eq_true c12
 try have c12b2 : (9223372036854775807 < t181.size + t182.size) = False := eq_false (Nat.not_lt.2 c12)
 replace H := Option.bind_eq_some_iff.mp H
 obtain ⟨t183, A130, H⟩ := H
 (try set_option simprocs false in dsimp only at H)
 have A13 := Aside0.mk A130
 clear A130
 by_cases c14 : (t181 ++ t182).size + t183.size ≤ 9223372036854775807
 rotate_left
 ·rw [if_neg c14] at H
  exact absurd H (by simp)
 rw [if_pos c14] at H
 have c14b0 := eq_true c14
 have c14b1 : decide ((t181 ++ t182).size + t183.size ≤ 9223372036854775807) = true := decide_eq_true c14
 try have c14b2 : (9223372036854775807 < (t181 ++ t182).size + t183.size) = False := eq_false (Nat.not_lt.2 c14)
 (try (have c14r := c14; (repeat rw [ByteArray.size_append] at c14r); (repeat rw [ByteArray.size_extract] at c14r); (repeat rw [Nat.sub_zero] at c14r); (repeat rw [Nat.min_self] at c14r); have c14rt := eq_true c14r; have c14ru := eq_false (Nat.not_lt.mpr c14r); clear c14r))
 (try (have c14s := c14; simp [c12b0] at c14s; have c14t := eq_true c14s; have c14u := eq_false (Nat.not_lt.mpr c14s); clear c14s))
 replace H := Option.bind_eq_some_iff.mp H
 obtain ⟨t184, A150, H⟩ := H
 (try set_option simprocs false in dsimp only at H)
 have A15 := Aside0.mk A150
 clear A150
 by_cases c16 : ((t181 ++ t182) ++ t183).size + t184.size ≤ 9223372036854775807
 rotate_left
 ·rw [if_neg c16] at H
  exact absurd H (by simp)
 rw [if_pos c16] at H
 have c16b0 := eq_true c16
 have c16b1 : decide (((t181 ++ t182) ++ t183).size + t184.size ≤ 9223372036854775807) = true := decide_eq_true c16
 try have c16b2 : (9223372036854775807 < ((t181 ++ t182) ++ t183).size + t184.size) = False := eq_false (Nat.not_lt.2 c16)
 (try (have c16r := c16; (repeat rw [ByteArray.size_append] at c16r); (repeat rw [ByteArray.size_extract] at c16r); (repeat rw [Nat.sub_zero] at c16r); (repeat rw [Nat.min_self] at c16r); have c16rt := eq_true c16r; have c16ru := eq_false (Nat.not_lt.mpr c16r); clear c16r))
 (try (have c16s := c16; simp [c12b0, c14b0] at c16s; have c16t := eq_true c16s; have c16u := eq_false (Nat.not_lt.mpr c16s); clear c16s))
 replace H := Option.bind_eq_some_iff.mp H
 obtain ⟨t185, A170, H⟩ := H
 (try set_option simprocs false in dsimp only at H)
 have A17 := Aside0.mk A170
 clear A170
 by_cases c18 : (((t181 ++ t182) ++ t183) ++ t184).size + t185.size ≤ 9223372036854775807
 rotate_left
 ·rw [if_neg c18] at H
  exact absurd H (by simp)
 rw [if_pos c18] at H
 have c18b0 := eq_true c18
 have c18b1 : decide ((((t181 ++ t182) ++ t183) ++ t184).size + t185.size ≤ 9223372036854775807) = true := decide_eq_true c18
 try have c18b2 : (9223372036854775807 < (((t181 ++ t182) ++ t183) ++ t184).size + t185.size) = False := eq_false (Nat.not_lt.2 c18)
 (try (have c18r := c18; (repeat rw [ByteArray.size_append] at c18r); (repeat rw [ByteArray.size_extract] at c18r); (repeat rw [Nat.sub_zero] at c18r); (repeat rw [Nat.min_self] at c18r); have c18rt := eq_true c18r; have c18ru := eq_false (Nat.not_lt.mpr c18r); clear c18r))
 (try (have c18s := c18; simp [c12b0, c14b0, c16b0] at c18s; have c18t := eq_true c18s; have c18u := eq_false (Nat.not_lt.mpr c18s); clear c18s))
 replace H := Option.bind_eq_some_iff.mp H
 obtain ⟨t186, A190, H⟩ := H
 (try set_option simprocs false in dsimp only at H)
 have A19 := Aside0.mk A190
 clear A190
 by_cases c20 : ((((t181 ++ t182) ++ t183) ++ t184) ++ t185).size + t186.size ≤ 9223372036854775807
 rotate_left
 ·rw [if_neg c20] at H
  exact absurd H (by simp)
 rw [if_pos c20] at H
 have c20b0 := eq_true c20
 have c20b1 : decide (((((t181 ++ t182) ++ t183) ++ t184) ++ t185).size + t186.size ≤ 9223372036854775807) = true := decide_eq_true c20
 try have c20b2 : (9223372036854775807 < ((((t181 ++ t182) ++ t183) ++ t184) ++ t185).size + t186.size) = False := eq_false (Nat.not_lt.2 c20)
 (try (have c20r := c20; (repeat rw [ByteArray.size_append] at c20r); (repeat rw [ByteArray.size_extract] at c20r); (repeat rw [Nat.sub_zero] at c20r); (repeat rw [Nat.min_self] at c20r); have c20rt := eq_true c20r; have c20ru := eq_false (Nat.not_lt.mpr c20r); clear c20r))
 (try (have c20s := c20; simp [c12b0, c14b0, c16b0, c18b0] at c20s; have c20t := eq_true c20s; have c20u := eq_false (Nat.not_lt.mpr c20s); clear c20s))
 by_cases c21 : (((((t181 ++ t182) ++ t183) ++ t184) ++ t185) ++ t186).size + 2 ≤ 9223372036854775807
 rotate_left
 ·rw [if_neg c21] at H
  exact absurd H (by simp)
 rw [if_pos c21] at H
 have c21b0 := eq_true c21
 have c21b1 : decide ((((((t181 ++ t182) ++ t183) ++ t184) ++ t185) ++ t186).size + 2 ≤ 9223372036854775807) = true := decide_eq_true c21
 try have c21b2 : (9223372036854775807 < (((((t181 ++ t182) ++ t183) ++ t184) ++ t185) ++ t186).size + 2) = False := eq_false (Nat.not_lt.2 c21)
 (try (have c21r := c21; (repeat rw [ByteArray.size_append] at c21r); (repeat rw [ByteArray.size_extract] at c21r); (repeat rw [Nat.sub_zero] at c21r); (repeat rw [Nat.min_self] at c21r); have c21rt := eq_true c21r; have c21ru := eq_false (Nat.not_lt.mpr c21r); clear c21r))
 (try (have c21s := c21; simp [c12b0, c14b0, c16b0, c18b0, c20b0] at c21s; have c21t := eq_true c21s; have c21u := eq_false (Nat.not_lt.mpr c21s); clear c21s))
 replace H := Option.bind_eq_some_iff.mp H
 obtain ⟨t187, A220, H⟩ := H
 (try set_option simprocs false in dsimp only at H)
 have A22 := Aside0.mk A220
 clear A220
 by_cases c23 : ((((((t181 ++ t182) ++ t183) ++ t184) ++ t185) ++ t186) ++ (⟨#[0, 0]⟩ : ByteArray)).size + t187.size ≤ 9223372036854775807
 rotate_left
 ·rw [if_neg c23] at H
  exact absurd H (by simp)
 rw [if_pos c23] at H
 have c23b0 := eq_true c23
 have c23b1 : decide (((((((t181 ++ t182) ++ t183) ++ t184) ++ t185) ++ t186) ++ (⟨#[0, 0]⟩ : ByteArray)).size + t187.size ≤ 9223372036854775807) = true := decide_eq_true c23
 try have c23b2 : (9223372036854775807 < ((((((t181 ++ t182) ++ t183) ++ t184) ++ t185) ++ t186) ++ (⟨#[0, 0]⟩ : ByteArray)).size + t187.size) = False := eq_false (Nat.not_lt.2 c23)
 (try (have c23r := c23; (repeat rw [ByteArray.size_append] at c23r); (repeat rw [ByteArray.size_extract] at c23r); (repeat rw [Nat.sub_zero] at c23r); (repeat rw [Nat.min_self] at c23r); (try rw [show (⟨#[0, 0]⟩ : ByteArray).size = 2 from rfl] at c23r); have c23rt := eq_true c23r; have c23ru := eq_false (Nat.not_lt.mpr c23r); clear c23r))
 (try (have c23s := c23; simp [c12b0, c14b0, c16b0, c18b0, c20b0, c21b0] at c23s; have c23t := eq_true c23s; have c23u := eq_false (Nat.not_lt.mpr c23s); clear c23s))
 by_cases c24 : (((((((t181 ++ t182) ++ t183) ++ t184) ++ t185) ++ t186) ++ (⟨#[0, 0]⟩ : ByteArray)) ++ t187).size + a0_7.size ≤ 9223372036854775807
 rotate_left
 ·rw [if_neg c24] at H
  exact absurd H (by simp)
 rw [if_pos c24] at H
 have c24b0 := eq_true c24
 have c24b1 : decide ((((((((t181 ++ t182) ++ t183) ++ t184) ++ t185) ++ t186) ++ (⟨#[0, 0]⟩ : ByteArray)) ++ t187).size + a0_7.size ≤ 9223372036854775807) = true := decide_eq_true c24
 try have c24b2 : (9223372036854775807 < (((((((t181 ++ t182) ++ t183) ++ t184) ++ t185) ++ t186) ++ (⟨#[0, 0]⟩ : ByteArray)) ++ t187).size + a0_7.size) = False := eq_false (Nat.not_lt.2 c24)
 (try (have c24r := c24; (repeat rw [ByteArray.size_append] at c24r); (repeat rw [ByteArray.size_extract] at c24r); (repeat rw [Nat.sub_zero] at c24r); (repeat rw [Nat.min_self] at c24r); (try rw [show (⟨#[0, 0]⟩ : ByteArray).size = 2 from rfl] at c24r); have c24rt := eq_true c24r; have c24ru := eq_false (Nat.not_lt.mpr c24r); clear c24r))
 (try (have c24s := c24; simp [c12b0, c14b0, c16b0, c18b0, c20b0, c21b0, c23b0] at c24s; have c24t := eq_true c24s; have c24u := eq_false (Nat.not_lt.mpr c24s); clear c24s))
 by_cases c25 : ((((((((t181 ++ t182) ++ t183) ++ t184) ++ t185) ++ t186) ++ (⟨#[0, 0]⟩ : ByteArray)) ++ t187) ++ a0_7).size + a1.size ≤ 9223372036854775807
 rotate_left
 ·rw [if_neg c25] at H
  exact absurd H (by simp)
 rw [if_pos c25] at H
 have c25b0 := eq_true c25
 have c25b1 : decide (((((((((t181 ++ t182) ++ t183) ++ t184) ++ t185) ++ t186) ++ (⟨#[0, 0]⟩ : ByteArray)) ++ t187) ++ a0_7).size + a1.size ≤ 9223372036854775807) = true := decide_eq_true c25
 try have c25b2 : (9223372036854775807 < ((((((((t181 ++ t182) ++ t183) ++ t184) ++ t185) ++ t186) ++ (⟨#[0, 0]⟩ : ByteArray)) ++ t187) ++ a0_7).size + a1.size) = False := eq_false (Nat.not_lt.2 c25)
 (try (have c25r := c25; (repeat rw [ByteArray.size_append] at c25r); (repeat rw [ByteArray.size_extract] at c25r); (repeat rw [Nat.sub_zero] at c25r); (repeat rw [Nat.min_self] at c25r); (try rw [show (⟨#[0, 0]⟩ : ByteArray).size = 2 from rfl] at c25r); have c25rt := eq_true c25r; have c25ru := eq_false (Nat.not_lt.mpr c25r); clear c25r))
 (try (have c25s := c25; simp [c12b0, c14b0, c16b0, c18b0, c20b0, c21b0, c23b0, c24b0] at c25s; have c25t := eq_true c25s; have c25u := eq_false (Nat.not_lt.mpr c25s); clear c25s))
 simp only [Option.some.injEq, Prod.mk.injEq] at H
 obtain ⟨rfl, rfl⟩ := H
 go_enter Try.func43, Try.ntmps43
 try go_wp2_with (first | ((with_reducible refine gate_dst (N := 2) rfl ?_); refine box_event ?hg (N := 2) ?hd (cs := (r8 a0_0 a0_1 a0_2 a0_3 a0_4 a0_5 a0_6 a0_7)) (t := 90) ?hr ?_; (case hd => rfl); (case hg => rfl); (case hr => first | (go_simp; done) | (go_simp; rfl)); intro gb179 hg w26 hbox hb; have n0_ := Aside0.mk (below_step (BW HB) hb); have n1_ := Aside0.mk (hbox); have n2_ := Aside0.mk ((by rw [hg]; exact (below_size (BW HB)) : w.heap.size ≤ gb179)); have n3_ := Aside0.mk ((by rw [hg]; exact (below_size (BW HB)) : w.heap.size ≤ gb179)); clear HB; have HB := n0_; have BK179 := n1_; have GW179 := n2_; have GE179 := n3_; clear n0_ n1_ n2_ n3_; clear hb hbox hg; obtain ⟨hcz27_0, hcz27_1, hcz27_2, hcz27_3, hcz27_4, hcz27_5, hcz27_6, hcz27_7, hfz27_0, hfz27_1, hfz27_2, hfz27_3, hfz27_4, hfz27_5, hfz27_6, hfz27_7⟩ := blk8 BK179.out) | ((with_reducible refine gate_callee (f := 79) rfl ?_); refine goesL_ (some 9) rfl rfl Try.func79 (by kernel_rfl) rfl #[.agg #[.int .i64 a0_0, .int .i64 a0_1, .int .u32 a0_2, .int .u32 a0_3, .int .i64 a0_4, .int .i64 a0_5, .int .i64 a0_6, .string a0_7]] rfl AG ?_; (with_reducible refine (weighbridgeref05_Right.calls a0_0 a0_1 a0_2 a0_3 a0_4 a0_5 a0_6 a0_7 true _ A3.out).mono ?_); rintro e w28 ⟨rfl, hb⟩; (try clear A3); refine ⟨_, rfl, ?_⟩; have n0_ := Aside0.mk (blkB BK179 hb); have n1_ := Aside0.mk (below_step (BW HB) hb); clear BK179; clear HB; have BK179 := n0_; have HB := n1_; clear n0_ n1_; (try clear hb); obtain ⟨hcz29_0, hcz29_1, hcz29_2, hcz29_3, hcz29_4, hcz29_5, hcz29_6, hcz29_7, hfz29_0, hfz29_1, hfz29_2, hfz29_3, hfz29_4, hfz29_5, hfz29_6, hfz29_7⟩ := blk8 BK179.out))
 have n0_ := Aside0.mk (blk_drew BK179.out)
 have n1_ := Aside0.mk (below_drew1 HB.out)
 clear BK179
 clear HB
 have BK179 := n0_
 have HB := n1_
 clear n0_ n1_
 refine start_ (n := 41) (S := fun w' => w'.cell? ⟨gb179, 0, none⟩ = some (.int .i64 a0_0) ∧ w'.cell? ⟨gb179, 1, none⟩ = some (.int .i64 a0_1) ∧ w'.cell? ⟨gb179, 2, none⟩ = some (.int .u32 a0_2) ∧ w'.cell? ⟨gb179, 3, none⟩ = some (.int .u32 a0_3) ∧ w'.cell? ⟨gb179, 4, none⟩ = some (.int .i64 a0_4) ∧ w'.cell? ⟨gb179, 5, none⟩ = some (.int .i64 a0_5) ∧ w'.cell? ⟨gb179, 6, none⟩ = some (.int .i64 a0_6) ∧ w'.cell? ⟨gb179, 7, none⟩ = some (.string a0_7)) (ds := []) (bm 41 0x0) (by kernel_rfl) rfl rfl ⟨(blk_cell BK179.out 0).trans rfl, (blk_cell BK179.out 1).trans rfl, (blk_cell BK179.out 2).trans rfl, (blk_cell BK179.out 3).trans rfl, (blk_cell BK179.out 4).trans rfl, (blk_cell BK179.out 5).trans rfl, (blk_cell BK179.out 6).trans rfl, (blk_cell BK179.out 7).trans rfl⟩ (fun hHeld => ?_); refine with_tabW weighbridgeref05_Build_p.tab7 weighbridgeref05_Build_p.bits7 (fun HT_ HW_ => ?_)
 generalize w28.drew = w30 at BK179 HB hHeld ⊢
 refine pu 0 21 (bm 41 0x1) HT_ ?_
 refine pu 3 24 (bm 41 0x9) HT_ ?_
 refine pu 7 28 (bm 41 0x89) HT_ ?_
 refine pu 12 33 (bm 41 0x1089) HT_ ?_
 refine pu 17 38 (bm 41 0x21089) HT_ ?_
 refine pu 18 39 (bm 41 0x61089) HT_ ?_
 refine pu 19 40 (bm 41 0xe1089) HT_ ?_
 refine pu 20 41 (bm 41 0x1e1089) HT_ ?_
 refine pu 25 46 (bm 41 0x21e1089) HT_ ?_
 refine pu 30 51 (bm 41 0x421e1089) HT_ ?_
 refine pu 34 55 (bm 41 0x4421e1089) HT_ ?_
 refine pu 37 58 (bm 41 0x24421e1089) HT_ ?_
 refine tw8 1 22 (bm 41 0x24421e108b) HT_ HW_ hHeld ?_
 refine tw8 4 25 (bm 41 0x24421e109b) HT_ HW_ hHeld ?_
 refine tw8 8 29 (bm 41 0x24421e119b) HT_ HW_ hHeld ?_
 refine pu 9 30 (bm 41 0x24421e139b) HT_ ?_
 refine tw8 13 34 (bm 41 0x24421e339b) HT_ HW_ hHeld ?_
 refine pu 14 35 (bm 41 0x24421e739b) HT_ ?_
 refine tw8 21 42 (bm 41 0x24423e739b) HT_ HW_ hHeld ?_
 refine pu 22 43 (bm 41 0x24427e739b) HT_ ?_
 refine tw8 26 47 (bm 41 0x24467e739b) HT_ HW_ hHeld ?_
 refine tw8 31 52 (bm 41 0x24c67e739b) HT_ HW_ hHeld ?_
 refine tw8 35 56 (bm 41 0x2cc67e739b) HT_ HW_ hHeld ?_
 refine one_ (i := 2) (N := some 23) (bm 41 0x2cc67e739f) rfl rfl (one_of HT_.out (by kernel_rfl)) (by decide) (fun K hK => ?_)
 refine goes_ Try.func80 (by kernel_rfl) rfl #[.int .i64 2, .int .i64 a0_0] (by rfl) rfl rfl (by (try simp only [List.map_toArray, List.map_cons, List.map_nil]); first | done | rfl | (simp only [Int.toNat_natCast]; first | done | rfl) | (rw [Int.toNat_natCast, ByteArray.extract_zero_size]; rfl) | (simp only [List.length_drop, List.length_take]; rfl)) ?_
 with_reducible refine (weighbridgeref05_num.calls 2 a0_0 t181 _ A10.out).mono ?_
 rintro e w31 ⟨rfl, hb⟩
 refine ⟨_, rfl, ?_⟩
 have n0_ := Aside0.mk (blkB BK179 hb)
 have n1_ := Aside0.mk (below_step (BW HB) hb)
 clear BK179
 clear HB
 have BK179 := n0_
 have HB := n1_
 clear n0_ n1_
 (try clear hb)
 (try clear hb2)
 (try clear hk)
 (try clear hi)
 refine hK.out _ _ ⟨(blk_cell BK179.out 0).trans rfl, (blk_cell BK179.out 1).trans rfl, (blk_cell BK179.out 2).trans rfl, (blk_cell BK179.out 3).trans rfl, (blk_cell BK179.out 4).trans rfl, (blk_cell BK179.out 5).trans rfl, (blk_cell BK179.out 6).trans rfl, (blk_cell BK179.out 7).trans rfl⟩ (fun hHeld => ?_)
 clear hK K
 refine norm_ (a' := ?_) ?_ ?_
 rotate_left
 ·show Act.put _ (some 23) _ = _
  simp only [Act.put, zpA, zpO, zpS, i64_w, i32_w]
  rfl
 refine one_ (i := 5) (N := some 26) (bm 41 0x2cc67e73bf) rfl rfl (one_of HT_.out (by kernel_rfl)) (by decide) (fun K hK => ?_)
 refine goes_ Try.func80 (by kernel_rfl) rfl #[.int .i64 2, .int .i64 a0_1] (by rfl) rfl rfl (by (try simp only [List.map_toArray, List.map_cons, List.map_nil]); first | done | rfl | (simp only [Int.toNat_natCast]; first | done | rfl) | (rw [Int.toNat_natCast, ByteArray.extract_zero_size]; rfl) | (simp only [List.length_drop, List.length_take]; rfl)) ?_
 with_reducible refine (weighbridgeref05_num.calls 2 a0_1 t182 _ A11.out).mono ?_
 rintro e w32 ⟨rfl, hb⟩
 refine ⟨_, rfl, ?_⟩
 have n0_ := Aside0.mk (blkB BK179 hb)
 have n1_ := Aside0.mk (below_step (BW HB) hb)
 clear BK179
 clear HB
 have BK179 := n0_
 have HB := n1_
 clear n0_ n1_
 (try clear hb)
 (try clear hb2)
 (try clear hk)
 (try clear hi)
 refine hK.out _ _ ⟨(blk_cell BK179.out 0).trans rfl, (blk_cell BK179.out 1).trans rfl, (blk_cell BK179.out 2).trans rfl, (blk_cell BK179.out 3).trans rfl, (blk_cell BK179.out 4).trans rfl, (blk_cell BK179.out 5).trans rfl, (blk_cell BK179.out 6).trans rfl, (blk_cell BK179.out 7).trans rfl⟩ (fun hHeld => ?_)
 clear hK K
 refine norm_ (a' := ?_) ?_ ?_
 rotate_left
 ·show Act.put _ (some 26) _ = _
  simp only [Act.put, zpA, zpO, zpS, i64_w, i32_w]
  rfl
 refine pu 6 27 (bm 41 0x2cc67e73ff) HT_ ?_
 refine one_ (i := 10) (N := some 31) (bm 41 0x2cc67e77ff) rfl rfl (one_of HT_.out (by kernel_rfl)) (by decide) (fun K hK => ?_)
 refine goes_ Try.func80 (by kernel_rfl) rfl #[.int .i64 4, .int .i64 (wrap64 (a0_2))] (by rfl) rfl rfl (by (try simp only [List.map_toArray, List.map_cons, List.map_nil]); first | done | rfl | (simp only [Int.toNat_natCast]; first | done | rfl) | (rw [Int.toNat_natCast, ByteArray.extract_zero_size]; rfl) | (simp only [List.length_drop, List.length_take]; rfl)) ?_
 with_reducible refine (weighbridgeref05_num.calls 4 (wrap64 (a0_2)) t183 _ A13.out).mono ?_
 rintro e w33 ⟨rfl, hb⟩
 refine ⟨_, rfl, ?_⟩
 have n0_ := Aside0.mk (blkB BK179 hb)
 have n1_ := Aside0.mk (below_step (BW HB) hb)
 clear BK179
 clear HB
 have BK179 := n0_
 have HB := n1_
 clear n0_ n1_
 (try clear hb)
 (try clear hb2)
 (try clear hk)
 (try clear hi)
 refine hK.out _ _ ⟨(blk_cell BK179.out 0).trans rfl, (blk_cell BK179.out 1).trans rfl, (blk_cell BK179.out 2).trans rfl, (blk_cell BK179.out 3).trans rfl, (blk_cell BK179.out 4).trans rfl, (blk_cell BK179.out 5).trans rfl, (blk_cell BK179.out 6).trans rfl, (blk_cell BK179.out 7).trans rfl⟩ (fun hHeld => ?_)
 clear hK K
 refine norm_ (a' := ?_) ?_ ?_
 rotate_left
 ·show Act.put _ (some 31) _ = _
  simp only [Act.put, zpA, zpO, zpS, i64_w, i32_w]
  rfl
 refine pu 11 32 (bm 41 0x2cc67e7fff) HT_ ?_
 refine one_ (i := 15) (N := some 36) (bm 41 0x2cc67effff) rfl rfl (one_of HT_.out (by kernel_rfl)) (by decide) (fun K hK => ?_)
 refine goes_ Try.func80 (by kernel_rfl) rfl #[.int .i64 4, .int .i64 (wrap64 (a0_3))] (by rfl) rfl rfl (by (try simp only [List.map_toArray, List.map_cons, List.map_nil]); first | done | rfl | (simp only [Int.toNat_natCast]; first | done | rfl) | (rw [Int.toNat_natCast, ByteArray.extract_zero_size]; rfl) | (simp only [List.length_drop, List.length_take]; rfl)) ?_
 with_reducible refine (weighbridgeref05_num.calls 4 (wrap64 (a0_3)) t184 _ A15.out).mono ?_
 rintro e w34 ⟨rfl, hb⟩
 refine ⟨_, rfl, ?_⟩
 have n0_ := Aside0.mk (blkB BK179 hb)
 have n1_ := Aside0.mk (below_step (BW HB) hb)
 clear BK179
 clear HB
 have BK179 := n0_
 have HB := n1_
 clear n0_ n1_
 (try clear hb)
 (try clear hb2)
 (try clear hk)
 (try clear hi)
 refine hK.out _ _ ⟨(blk_cell BK179.out 0).trans rfl, (blk_cell BK179.out 1).trans rfl, (blk_cell BK179.out 2).trans rfl, (blk_cell BK179.out 3).trans rfl, (blk_cell BK179.out 4).trans rfl, (blk_cell BK179.out 5).trans rfl, (blk_cell BK179.out 6).trans rfl, (blk_cell BK179.out 7).trans rfl⟩ (fun hHeld => ?_)
 clear hK K
 refine norm_ (a' := ?_) ?_ ?_
 rotate_left
 ·show Act.put _ (some 36) _ = _
  simp only [Act.put, zpA, zpO, zpS, i64_w, i32_w]
  rfl
 refine pu 16 37 (bm 41 0x2cc67fffff) HT_ ?_
 refine one_ (i := 23) (N := some 44) (bm 41 0x2cc6ffffff) rfl rfl (one_of HT_.out (by kernel_rfl)) (by decide) (fun K hK => ?_)
 refine goes_ Try.func80 (by kernel_rfl) rfl #[.int .i64 2, .int .i64 (wrap64 ((wrap64 (4096 * (wrap64 (Int.tdiv (wrap64 (20 + (a0_7.size : Int))) 4)))) + a0_4))] (by rfl) rfl rfl (by (try simp only [List.map_toArray, List.map_cons, List.map_nil]); first | done | rfl | (simp only [Int.toNat_natCast]; first | done | rfl) | (rw [Int.toNat_natCast, ByteArray.extract_zero_size]; rfl) | (simp only [List.length_drop, List.length_take]; rfl)) ?_
 with_reducible refine (weighbridgeref05_num.calls 2 (wrap64 ((wrap64 (4096 * (wrap64 (Int.tdiv (wrap64 (20 + (a0_7.size : Int))) 4)))) + a0_4)) t185 _ A17.out).mono ?_
 rintro e w35 ⟨rfl, hb⟩
 refine ⟨_, rfl, ?_⟩
 have n0_ := Aside0.mk (blkB BK179 hb)
 have n1_ := Aside0.mk (below_step (BW HB) hb)
 clear BK179
 clear HB
 have BK179 := n0_
 have HB := n1_
 clear n0_ n1_
 (try clear hb)
 (try clear hb2)
 (try clear hk)
 (try clear hi)
 refine hK.out _ _ ⟨(blk_cell BK179.out 0).trans rfl, (blk_cell BK179.out 1).trans rfl, (blk_cell BK179.out 2).trans rfl, (blk_cell BK179.out 3).trans rfl, (blk_cell BK179.out 4).trans rfl, (blk_cell BK179.out 5).trans rfl, (blk_cell BK179.out 6).trans rfl, (blk_cell BK179.out 7).trans rfl⟩ (fun hHeld => ?_)
 clear hK K
 refine norm_ (a' := ?_) ?_ ?_
 rotate_left
 ·show Act.put _ (some 44) _ = _
  simp only [Act.put, zpA, zpO, zpS, i64_w, i32_w]
  rfl
 refine pu 24 45 (bm 41 0x2cc7ffffff) HT_ ?_
 refine one_ (i := 27) (N := some 48) (bm 41 0x2ccfffffff) rfl rfl (one_of HT_.out (by kernel_rfl)) (by decide) (fun K hK => ?_)
 refine goes_ Try.func80 (by kernel_rfl) rfl #[.int .i64 2, .int .i64 a0_5] (by rfl) rfl rfl (by (try simp only [List.map_toArray, List.map_cons, List.map_nil]); first | done | rfl | (simp only [Int.toNat_natCast]; first | done | rfl) | (rw [Int.toNat_natCast, ByteArray.extract_zero_size]; rfl) | (simp only [List.length_drop, List.length_take]; rfl)) ?_
 with_reducible refine (weighbridgeref05_num.calls 2 a0_5 t186 _ A19.out).mono ?_
 rintro e w36 ⟨rfl, hb⟩
 refine ⟨_, rfl, ?_⟩
 have n0_ := Aside0.mk (blkB BK179 hb)
 have n1_ := Aside0.mk (below_step (BW HB) hb)
 clear BK179
 clear HB
 have BK179 := n0_
 have HB := n1_
 clear n0_ n1_
 (try clear hb)
 (try clear hb2)
 (try clear hk)
 (try clear hi)
 refine hK.out _ _ ⟨(blk_cell BK179.out 0).trans rfl, (blk_cell BK179.out 1).trans rfl, (blk_cell BK179.out 2).trans rfl, (blk_cell BK179.out 3).trans rfl, (blk_cell BK179.out 4).trans rfl, (blk_cell BK179.out 5).trans rfl, (blk_cell BK179.out 6).trans rfl, (blk_cell BK179.out 7).trans rfl⟩ (fun hHeld => ?_)
 clear hK K
 refine norm_ (a' := ?_) ?_ ?_
 rotate_left
 ·show Act.put _ (some 48) _ = _
  simp only [Act.put, zpA, zpO, zpS, i64_w, i32_w]
  rfl
 refine pu 28 49 (bm 41 0x2cdfffffff) HT_ ?_
 refine pu 29 50 (bm 41 0x2cffffffff) HT_ ?_
 refine one_ (i := 32) (N := some 53) (bm 41 0x2dffffffff) rfl rfl (one_of HT_.out (by kernel_rfl)) (by decide) (fun K hK => ?_)
 refine goes_ Try.func80 (by kernel_rfl) rfl #[.int .i64 2, .int .i64 a0_6] (by rfl) rfl rfl (by (try simp only [List.map_toArray, List.map_cons, List.map_nil]); first | done | rfl | (simp only [Int.toNat_natCast]; first | done | rfl) | (rw [Int.toNat_natCast, ByteArray.extract_zero_size]; rfl) | (simp only [List.length_drop, List.length_take]; rfl)) ?_
 with_reducible refine (weighbridgeref05_num.calls 2 a0_6 t187 _ A22.out).mono ?_
 rintro e w37 ⟨rfl, hb⟩
 refine ⟨_, rfl, ?_⟩
 have n0_ := Aside0.mk (blkB BK179 hb)
 have n1_ := Aside0.mk (below_step (BW HB) hb)
 clear BK179
 clear HB
 have BK179 := n0_
 have HB := n1_
 clear n0_ n1_
 (try clear hb)
 (try clear hb2)
 (try clear hk)
 (try clear hi)
 refine hK.out _ _ ⟨(blk_cell BK179.out 0).trans rfl, (blk_cell BK179.out 1).trans rfl, (blk_cell BK179.out 2).trans rfl, (blk_cell BK179.out 3).trans rfl, (blk_cell BK179.out 4).trans rfl, (blk_cell BK179.out 5).trans rfl, (blk_cell BK179.out 6).trans rfl, (blk_cell BK179.out 7).trans rfl⟩ (fun hHeld => ?_)
 clear hK K
 refine norm_ (a' := ?_) ?_ ?_
 rotate_left
 ·show Act.put _ (some 53) _ = _
  simp only [Act.put, zpA, zpO, zpS, i64_w, i32_w]
  rfl
 refine pu 33 54 (bm 41 0x2fffffffff) HT_ ?_
 refine pu 36 57 (bm 41 0x3fffffffff) HT_ ?_
 refine pu 38 59 (bm 41 0x7fffffffff) HT_ ?_
 refine pu 39 4 (bm 41 0xffffffffff) HT_ ?_
 refine pu 40 5 (bm 41 0x1ffffffffff) HT_ ?_
 refine done_ (done_of HT_.out (by kernel_rfl)) ?_
 try go_wp2
 go_ret2
 exact ⟨RT, BW HB⟩

theorem r5_num {a b : Int} (h : Sp.fits a b = true) : weighbridgeref05_num.f a b = some (lb (Sp.beBytes a.toNat b)) := by
 unfold weighbridgeref05_num.f; rw [weighbridgeref04_Num_yes h]; rfl
theorem r5_wrap {n : Int} (h0 : -9223372036854775808 ≤ n) (h1 : n ≤ 9223372036854775807) : wrap64 n = n := by unfold wrap64; omega
def weighbridgeref05_Build.f (a0_0 a0_1 a0_2 a0_3 a0_4 a0_5 a0_6 : Int) (a0_7 : ByteArray) (a1 : ByteArray) : Option (ByteArray × Int) := if (0 ≤ a0_2 ∧ a0_2 ≤ 4294967295) ∧ (0 ≤ a0_3 ∧ a0_3 ≤ 4294967295) ∧ a0_7.size ≤ 140737488355328 ∧ a1.size ≤ 140737488355328 then some (lb (Sp.tcpBuild a0_0 a0_1 a0_2 a0_3 a0_4 a0_5 a0_6 (bl a0_7) (bl a1)).1, (Sp.tcpBuild a0_0 a0_1 a0_2 a0_3 a0_4 a0_5 a0_6 (bl a0_7) (bl a1)).2) else none
theorem weighbridgeref05_Build_eq {a0_0 a0_1 a0_2 a0_3 a0_4 a0_5 a0_6 : Int} {a0_7 a1 : ByteArray} (h0 : 0 ≤ a0_2 ∧ a0_2 ≤ 4294967295) (h1 : 0 ≤ a0_3 ∧ a0_3 ≤ 4294967295) (h2 : a0_7.size ≤ 140737488355328) (h3 : a1.size ≤ 140737488355328) : weighbridgeref05_Build.f a0_0 a0_1 a0_2 a0_3 a0_4 a0_5 a0_6 a0_7 a1 = some (lb (Sp.tcpBuild a0_0 a0_1 a0_2 a0_3 a0_4 a0_5 a0_6 (bl a0_7) (bl a1)).1, (Sp.tcpBuild a0_0 a0_1 a0_2 a0_3 a0_4 a0_5 a0_6 (bl a0_7) (bl a1)).2) := by unfold weighbridgeref05_Build.f; exact if_pos ⟨h0, h1, h2, h3⟩
theorem r5_fits4 {n : Int} (h : 0 ≤ n ∧ n ≤ 4294967295) : Sp.fits 4 n = true := Sp.fits_iff.2 ⟨by decide, by decide, h.1, by show n < 256 ^ 4; omega⟩
theorem weighbridgeref05_Build_ev (a0_0 a0_1 a0_2 a0_3 a0_4 a0_5 a0_6 : Int) (a0_7 a1 : ByteArray) (r : ByteArray × Int) (h : weighbridgeref05_Build.f a0_0 a0_1 a0_2 a0_3 a0_4 a0_5 a0_6 a0_7 a1 = some r) : weighbridgeref05_Build_p.f a0_0 a0_1 a0_2 a0_3 a0_4 a0_5 a0_6 a0_7 a1 = some r := by
 unfold weighbridgeref05_Build.f at h
 split at h
 case isFalse => cases h
 case isTrue hs =>
  obtain ⟨s2, s3, s7, s1⟩ := hs
  rw [← h]
  unfold weighbridgeref05_Build_p.f Sp.tcpBuild
  rw [weighbridgeref05_Right_eq s7, Option.bind_some]
  have hl := bl_length a0_7
  have hb := bl_length a1
  by_cases hr : Sp.tcpRight a0_0 a0_1 a0_4 a0_5 a0_6 (bl a0_7) = true
  rotate_left
  ·rw [if_neg hr, if_neg hr]; rfl
  obtain ⟨f0, f1, f5, f6, hfl, hol, _⟩ := Sp.tcpRight_iff.1 hr
  rw [if_pos hr, if_pos hr, r5_wrap (n := 20 + (a0_7.size : Int)) (by omega) (by omega), r5_wrap (n := 20 + (a0_7.size : Int) + (a1.size : Int)) (by omega) (by omega)]
  by_cases hz : 20 + (a0_7.size : Int) + (a1.size : Int) > 1500
  ·rw [if_pos hz, if_pos (by omega)]; rfl
  have ff : Sp.fits 2 (4096 * ((20 + (a0_7.size : Int)) / 4) + a0_4) = true := Sp.fits2.2 ⟨by omega, by omega⟩
  rw [if_neg hz, if_neg (by omega), Int.tdiv_eq_ediv_of_nonneg (by omega), r5_wrap (n := (20 + (a0_7.size : Int)) / 4) (by omega) (by omega), r5_wrap (n := 4096 * ((20 + (a0_7.size : Int)) / 4)) (by omega) (by omega), r5_wrap (n := 4096 * ((20 + (a0_7.size : Int)) / 4) + a0_4) (by omega) (by omega), r5_wrap (n := a0_2) (by omega) (by omega), r5_wrap (n := a0_3) (by omega) (by omega)]
  have l2 : ∀ x, (Sp.beBytes (2 : Int).toNat x).length = 2 := fun x => by rw [Sp.beBytes_length]; rfl
  have l4 : ∀ x, (Sp.beBytes (4 : Int).toNat x).length = 4 := fun x => by rw [Sp.beBytes_length]; rfl
  have e7 : lb (bl a0_7) = a0_7 := Sp.lb_bl a0_7
  have e1 : lb (bl a1) = a1 := Sp.lb_bl a1
  rw [r5_num f0, Option.bind_some, r5_num f1, Option.bind_some, if_pos (by rw [lb_size, lb_size, l2, l2]; decide), Sp.lb_append,
   r5_num (r5_fits4 s2), Option.bind_some, if_pos (by rw [lb_size, lb_size, List.length_append, l2, l2, l4]; decide), Sp.lb_append,
   r5_num (r5_fits4 s3), Option.bind_some, if_pos (by rw [lb_size, lb_size, List.length_append, List.length_append, l2, l2, l4, l4]; decide), Sp.lb_append,
   r5_num ff, Option.bind_some, if_pos (by rw [lb_size, lb_size, List.length_append, List.length_append, List.length_append, l2, l2, l4, l4, l2]; decide), Sp.lb_append,
   r5_num f5, Option.bind_some, if_pos (by rw [lb_size, lb_size, List.length_append, List.length_append, List.length_append, List.length_append, l2, l2, l4, l4, l2, l2]; decide), Sp.lb_append,
   if_pos (by rw [lb_size, List.length_append, List.length_append, List.length_append, List.length_append, List.length_append, l2, l2, l4, l4, l2, l2]; decide), show (⟨#[0, 0]⟩ : ByteArray) = lb [0, 0] from rfl, Sp.lb_append,
   r5_num f6, Option.bind_some, if_pos (by rw [lb_size, lb_size, List.length_append, List.length_append, List.length_append, List.length_append, List.length_append, List.length_append, l2, l2, l4, l4, l2, l2, l2]; decide), Sp.lb_append]
  have hh : Sp.beBytes (2 : Int).toNat a0_0 ++ Sp.beBytes (2 : Int).toNat a0_1 ++ Sp.beBytes (4 : Int).toNat a0_2 ++ Sp.beBytes (4 : Int).toNat a0_3 ++ Sp.beBytes (2 : Int).toNat (4096 * ((20 + (a0_7.size : Int)) / 4) + a0_4) ++ Sp.beBytes (2 : Int).toNat a0_5 ++ [0, 0] ++ Sp.beBytes (2 : Int).toNat a0_6 = Sp.tcpHead a0_0 a0_1 a0_2 a0_3 a0_4 a0_5 a0_6 (bl a0_7) := by
   unfold Sp.tcpHead; rw [hl]; rfl
  rw [hh, if_pos (by rw [lb_size, Sp.tcpHead_length]; omega), if_pos (by rw [ByteArray.size_append, lb_size, Sp.tcpHead_length]; omega)]
  rw [show lb (Sp.tcpHead a0_0 a0_1 a0_2 a0_3 a0_4 a0_5 a0_6 (bl a0_7)) ++ a0_7 ++ a1 = lb (Sp.tcpHead a0_0 a0_1 a0_2 a0_3 a0_4 a0_5 a0_6 (bl a0_7) ++ bl a0_7 ++ bl a1) from Sp.bl_inj (by simp only [Sp.bl_append, Sp.bl_lb])]
theorem weighbridgeref05_Build.calls (a0_0 : Int) (a0_1 : Int) (a0_2 : Int) (a0_3 : Int) (a0_4 : Int) (a0_5 : Int) (a0_6 : Int) (a0_7 : ByteArray) (a1 : ByteArray) (r1 : ByteArray) (r2 : Int) (w : World) (h : weighbridgeref05_Build.f a0_0 a0_1 a0_2 a0_3 a0_4 a0_5 a0_6 a0_7 a1 = some (r1, r2)) :
  Calls Try.prog 43 #[.agg #[.int .i64 a0_0, .int .i64 a0_1, .int .u32 a0_2, .int .u32 a0_3, .int .i64 a0_4, .int .i64 a0_5, .int .i64 a0_6, .string a0_7], .string a1] w fun e w' => e = .returned (.tuple #[.string r1, .int .i64 r2]) ∧ Below w.heap.size w w' := by
 have hk := weighbridgeref05_Build_ev a0_0 a0_1 a0_2 a0_3 a0_4 a0_5 a0_6 a0_7 a1 _ h
 exact weighbridgeref05_Build_p.calls a0_0 a0_1 a0_2 a0_3 a0_4 a0_5 a0_6 a0_7 a1 r1 r2 w hk

/-! ### weighbridgeref05_get: function 100 -/
def weighbridgeref05_get.f (a0 : ByteArray) (a1 : Int) (a2 : Int) : Option (Int) := (weighbridgeref01_Get.f a0 a1 a2).bind fun bt331 => (some bt331.1)
/-! ### weighbridgeref05_Parse_p: function 85 -/
def weighbridgeref05_Parse_p.j0 : Nat → ByteArray → Int → Bool → Option (Int × Int × Int × Int × Int × Int × Int × ByteArray × ByteArray × Int)
 | 0, _, _, _ => none
 | k + 1, x0, x5, x23 => if x23 = true then (some (0, 0, 0, 0, 0, 0, 0, (⟨#[]⟩ : ByteArray), (⟨#[]⟩ : ByteArray), 4)) else (if 20 ≤ x5 then (if x5 ≤ (x0.size : Int) then ((weighbridgeref04_OptsRight.f (x0.extract 20 (x5 : Int).toNat)).bind fun t334 => (if t334 = true then ((weighbridgeref05_get.f x0 0 2).bind fun t335 => ((weighbridgeref05_get.f x0 2 2).bind fun t336 => ((weighbridgeref05_get.f x0 4 4).bind fun t337 => ((weighbridgeref05_get.f x0 8 4).bind fun t338 => ((weighbridgeref05_get.f x0 12 2).bind fun t339 => ((weighbridgeref05_get.f x0 14 2).bind fun t340 => ((weighbridgeref05_get.f x0 18 2).bind fun t341 => (if 0 ≤ x5 then (some (t335, t336, (t337) % 4294967296, (t338) % 4294967296, Int.tmod t339 4096, t340, t341, x0.extract 20 (x5 : Int).toNat, x0.extract (x5 : Int).toNat x0.size, 0)) else (none))))))))) else (some (0, 0, 0, 0, 0, 0, 0, (⟨#[]⟩ : ByteArray), (⟨#[]⟩ : ByteArray), 6)))) else (none)) else (none))
def weighbridgeref05_Parse_p.f (k : Nat) (a0 : ByteArray) : Option (Int × Int × Int × Int × Int × Int × Int × ByteArray × ByteArray × Int) := if (a0.size : Int) < 20 then (some (0, 0, 0, 0, 0, 0, 0, (⟨#[]⟩ : ByteArray), (⟨#[]⟩ : ByteArray), 2)) else (if 12 < (a0.size : Int) then (if (4 * ((Int.tdiv (bt a0 12) 16) % 256)) < 20 then (weighbridgeref05_Parse_p.j0 k a0 (4 * ((Int.tdiv (bt a0 12) 16) % 256)) true) else (weighbridgeref05_Parse_p.j0 k a0 (4 * ((Int.tdiv (bt a0 12) 16) % 256)) (decide ((4 * ((Int.tdiv (bt a0 12) 16) % 256)) > (a0.size : Int))))) else (none))
theorem weighbridgeref05_Parse_p.mono_l : ∀ k, (∀ y0 y1 y2, LeO (weighbridgeref05_Parse_p.j0 k y0 y1 y2) (weighbridgeref05_Parse_p.j0 (k + 1) y0 y1 y2))
 | 0 => fun _ _ _ r h => by simp [weighbridgeref05_Parse_p.j0] at h
 | k + 1 => by
  have ih0 := weighbridgeref05_Parse_p.mono_l k
  ·intro y0 y1 y2
   unfold weighbridgeref05_Parse_p.j0
   repeat' first
   | (with_reducible exact ih0 _ _ _)
   | (with_reducible exact LeO.refl _)
   | (with_reducible exact LeO.none _)
   | (with_reducible refine LeO.ite ?_ ?_)
   | (with_reducible refine LeO.bind ?_ (fun _ => ?_))
   | exact ih0 _ _ _
   | exact LeO.none _
   | refine LeO.ite ?_ ?_
   | refine LeO.bind ?_ (fun _ => ?_)
theorem weighbridgeref05_Parse_p.mono : ∀ a0 k, LeO (weighbridgeref05_Parse_p.f k a0) (weighbridgeref05_Parse_p.f (k + 1) a0) := by
 intro a0 k
 have ih0 := weighbridgeref05_Parse_p.mono_l k
 unfold weighbridgeref05_Parse_p.f
 repeat' first
   | (with_reducible exact ih0 _ _ _)
   | (with_reducible exact LeO.refl _)
   | (with_reducible exact LeO.none _)
   | (with_reducible refine LeO.ite ?_ ?_)
   | (with_reducible refine LeO.bind ?_ (fun _ => ?_))
   | exact ih0 _ _ _
   | exact LeO.none _
   | refine LeO.ite ?_ ?_
   | refine LeO.bind ?_ (fun _ => ?_)
end Go.Proofs.Ytfnjohklmpiboaa.Pr
