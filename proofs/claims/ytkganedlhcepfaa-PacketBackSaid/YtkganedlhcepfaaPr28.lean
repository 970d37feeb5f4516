-- Written by a program of the session (wip/tools) out of the translation, over the kit's print; with pieces of the session's own.
import Derived.Test.YtkganedlhcepfaaPr0
import Derived.Test.YtkganedlhcepfaaPr1
import Derived.Test.YtkganedlhcepfaaPr9
import Derived.Test.YtkganedlhcepfaaPr18
namespace Go.Proofs.Ytkganedlhcepfaa.Pr
open Go.RowKit Go.Proofs.YtkganedlhcepfaaW.PrintWords Go.Proofs.YtkganedlhcepfaaW.PrintLast Go.Proofs.YtkganedlhcepfaaW.PrintMore
attribute [local go_sem] max2_int min2_int max_two min_two max_three min_three max_four min_four   -- for this text's walks alone
set_option linter.unusedVariables false
set_option linter.unusedSimpArgs false
open Go.Proofs.Ytkganedlhcepfaa.Sp
attribute [local go_sem high] eqA30
/-! ### weighbridgelaw09_PacketBack: function 8 -/
def weighbridgelaw09_PacketBack.f (a0_0 : Int) (a0_1 : Int) (a0_2 : Int) (a0_3 : Int) (a0_4 : Int) (a1_0 : Int) (a1_1 : Int) (a1_2 : Int) (a1_3 : Int) (a1_4 : Int) : Option (Bool) := (weighbridgelaw09_examples.f).bind fun t662 => (if t662 = true then ((packet_Key.f a0_0 a0_1 a0_2 a0_3 a0_4).bind fun bt663 => ((packet_Key.f a1_0 a1_1 a1_2 a1_3 a1_4).bind fun bt665 => ((packet_Reverse.f a0_0 a0_1 a0_2 a0_3 a0_4).bind fun bt667 => ((packet_Key.f bt667.1 bt667.2.1 bt667.2.2.1 bt667.2.2.2.1 bt667.2.2.2.2).bind fun bt672 => ((packet_Reverse.f a0_0 a0_1 a0_2 a0_3 a0_4).bind fun bt674 => ((packet_Reverse.f bt674.1 bt674.2.1 bt674.2.2.1 bt674.2.2.2.1 bt674.2.2.2.2).bind fun bt679 => (if (bt679.1 == a0_0 && (bt679.2.1 == a0_1 && (bt679.2.2.1 == a0_2 && (bt679.2.2.2.1 == a0_3 && (bt679.2.2.2.2 == a0_4))))) = true then (if (bt663.2 == bt672.2) = true then (if bt663.2 = true then (if (bt663.1.size : Int) = 13 then (if (bt672.1.size : Int) = 13 then (if bt665.2 = true then (some ((bt663.1.toList == bt665.1.toList) == (a0_0 == a1_0 && (a0_1 == a1_1 && (a0_2 == a1_2 && (a0_3 == a1_3 && (a0_4 == a1_4))))))) else (some true)) else (some false)) else (some false)) else (some true)) else (some false)) else (some false)))))))) else (some false))
def weighbridgelaw09_PacketBack.T7 : Bool × List (List Nat × List Nat) := (true, [([], []), ([0], [0]), ([1], [1]), ([2, 1, 1], [1, 2]), ([3, 3, 1], [1, 3]), ([1], [1]), ([4, 5, 1], [1, 4, 5]), ([1, 6], [1, 6]), ([7, 4], [7]), ([8], [8]), ([8], [8]), ([9, 10, 8], [8, 9, 10]), ([8, 11], [8, 11]), ([12, 8], [12]), ([13], [13]), ([14, 13], [13, 14]), ([15, 13, 13], [13, 15]), ([16], [16]), ([17, 16], [16, 17]), ([18, 16], [16, 18]), ([19, 16, 16], [16, 19]), ([20], [20]), ([21, 20], [20, 21]), ([22, 20], [20, 22]), ([20, 23, 16], [16, 20, 23]), ([16, 24, 13], [13, 16, 24]), ([13, 25], [13, 25]), ([26, 20], [26]), ([27], [27]), ([28, 27], [27, 28]), ([29, 27, 27], [27, 29]), ([30], [30]), ([31, 30], [30, 31]), ([30, 32, 27], [27, 30, 32]), ([33, 30, 27], [27, 33]), ([34], [34]), ([34], [34]), ([35, 36, 34], [34, 35, 36]), ([34], [34]), ([34], [34]), ([38, 39, 34], [34, 38, 39]), ([37, 40, 34], [34, 37, 40]), ([34, 41, 27], [27, 34, 41]), ([27, 42], [27, 42]), ([43, 34, 0, 1, 2, 3, 4, 5, 6, 7, 8, 9, 10, 11, 12, 13, 14, 15, 16, 17, 18, 19, 20, 21, 22, 23, 24, 25, 26, 27, 28, 29, 30, 31, 32, 33, 34, 35, 36, 37, 38, 39, 40, 41, 42, 43], [43])])
def weighbridgelaw09_PacketBack.B7 : List Nat := [0, 1, 3, 7, 15, 3, 63, 127, 255, 511, 511, 2047, 4095, 8191, 16383, 32767, 65535, 131071, 262143, 524287, 1048575, 2097151, 4194303, 8388607, 16777215, 33554431, 67108863, 134217727, 268435455, 536870911, 1073741823, 2147483647, 4294967295, 8589934591, 17179869183, 34359738367, 34359738367, 137438953471, 34359738367, 34359738367, 858993459199, 2199023255551, 4398046511103, 8796093022207, 17592186044415]
theorem weighbridgelaw09_PacketBack.tab7 : rtab .any (opsOf Try.f8 7) = weighbridgelaw09_PacketBack.T7 := by kernel_rfl
theorem weighbridgelaw09_PacketBack.bits7 : waitsOk weighbridgelaw09_PacketBack.T7.2 weighbridgelaw09_PacketBack.B7 = true := by kernel_rfl
set_option maxHeartbeats 8000000 in
set_option maxRecDepth 100000 in
theorem weighbridgelaw09_PacketBack.calls (a0_0 : Int) (a0_1 : Int) (a0_2 : Int) (a0_3 : Int) (a0_4 : Int) (a1_0 : Int) (a1_1 : Int) (a1_2 : Int) (a1_3 : Int) (a1_4 : Int) (r : Bool) (w : World) (h : weighbridgelaw09_PacketBack.f a0_0 a0_1 a0_2 a0_3 a0_4 a1_0 a1_1 a1_2 a1_3 a1_4 = some r) (hr_ : r = true) :
  Calls Try.prog 8 #[.agg #[.int .i64 a0_0, .int .u32 a0_1, .int .u32 a0_2, .int .i64 a0_3, .int .i64 a0_4], .agg #[.int .i64 a1_0, .int .u32 a1_1, .int .u32 a1_2, .int .i64 a1_3, .int .i64 a1_4]] w fun e w' => e = .returned (.bool r) ∧ Below w.heap.size w w' := by
 have hu30 := Try.underlying30
 have HB := Aside0.mk (Below.refl w.heap.size w)
 have H := h
 unfold weighbridgelaw09_PacketBack.f at H
 clear h
 replace H := Option.bind_eq_some_iff.mp H
 obtain ⟨t662, A30, H⟩ := H
 (try set_option simprocs false in dsimp only at H)
 have A3 := Aside0.mk A30
 clear A30
 by_cases c4 : t662 = true
 rotate_left
 ·replace c4 := Bool.eq_false_iff.mpr c4
  subst c4
  have H1 : (some false) = some r := by rw [if_neg (show ¬ (false = true) by decide)] at H; exact H
  clear H
  have H := H1
  clear H1
  exact absurd ((Option.some.inj H).trans hr_) (by decide)
 subst c4
 first | rw [if_pos rfl] at H | rw [if_pos trivial] at H
 replace H := Option.bind_eq_some_iff.mp H
 obtain ⟨⟨t663, t664⟩, A50, H⟩ := H
 (try set_option simprocs false in dsimp only at H)
 have A5 := Aside0.mk A50
 clear A50
 replace H := Option.bind_eq_some_iff.mp H
 obtain ⟨⟨t665, t666⟩, A60, H⟩ := H
 (try set_option simprocs false in dsimp only at H)
 have A6 := Aside0.mk A60
 clear A60
 replace H := Option.bind_eq_some_iff.mp H
 obtain ⟨⟨t667, t668, t669, t670, t671⟩, A70, H⟩ := H
 (try set_option simprocs false in dsimp only at H)
 have A7 := Aside0.mk A70
 clear A70
 replace H := Option.bind_eq_some_iff.mp H
 obtain ⟨⟨t672, t673⟩, A80, H⟩ := H
 (try set_option simprocs false in dsimp only at H)
 have A8 := Aside0.mk A80
 clear A80
 replace H := Option.bind_eq_some_iff.mp H
 obtain ⟨⟨t674, t675, t676, t677, t678⟩, A90, H⟩ := H
 (try set_option simprocs false in dsimp only at H)
 have A9 := Aside0.mk A90
 clear A90
 replace H := Option.bind_eq_some_iff.mp H
 obtain ⟨⟨t679, t680, t681, t682, t683⟩, A100, H⟩ := H
 (try set_option simprocs false in dsimp only at H)
 have A10 := Aside0.mk A100
 clear A100
 by_cases c11 : (t679 == a0_0 && (t680 == a0_1 && (t681 == a0_2 && (t682 == a0_3 && (t683 == a0_4))))) = true
 rotate_left
 ·rw [if_neg c11] at H
  have c11b0 : (t679 == a0_0 && (t680 == a0_1 && (t681 == a0_2 && (t682 == a0_3 && (t683 == a0_4))))) = false := by simpa using c11
  (try (have c11b1 : decide (t679 = a0_0 && (t680 == a0_1 && (t681 == a0_2 && (t682 == a0_3 && (t683 == a0_4))))) = false := by simpa using c11))
  (try (have c11b2 : (t679 == a0_0 && (t680 == a0_1 && (t681 == a0_2 && (t682 == a0_3 && (t683 == a0_4))))) = false := by simpa using c11))
  (try (have c11b3 : ¬ (t679 = a0_0 && (t680 == a0_1 && (t681 == a0_2 && (t682 == a0_3 && (t683 == a0_4))))) := by simpa using c11))
  clear c11
  exact absurd ((Option.some.inj H).trans hr_) (by decide)
 rw [if_pos c11] at H
 have c11b0 : (t679 == a0_0 && (t680 == a0_1 && (t681 == a0_2 && (t682 == a0_3 && (t683 == a0_4))))) = true := c11
 (try (have c11b1 : decide (t679 = a0_0 && (t680 == a0_1 && (t681 == a0_2 && (t682 == a0_3 && (t683 == a0_4))))) = true := by simpa using c11))
 (try (have c11b2 : (t679 == a0_0 && (t680 == a0_1 && (t681 == a0_2 && (t682 == a0_3 && (t683 == a0_4))))) = true := by simpa using c11))
 clear c11
 by_cases c12 : (t664 == t673) = true
 rotate_left
 ·rw [if_neg c12] at H
  have c12b0 : (t664 == t673) = false := by simpa using c12
  (try (have c12b1 : decide (t664 = t673) = false := by simpa using c12))
  (try (have c12b2 : (t664 == t673) = false := by simpa using c12))
  (try (have c12b3 : ¬ (t664 = t673) := by simpa using c12))
  clear c12
  exact absurd ((Option.some.inj H).trans hr_) (by decide)
 rw [if_pos c12] at H
 have c12b0 : (t664 == t673) = true := c12
 (try (have c12b1 : decide (t664 = t673) = true := by simpa using c12))
 (try (have c12b2 : (t664 == t673) = true := by simpa using c12))
 clear c12
 by_cases c13 : t664 = true
 rotate_left
 ·replace c13 := Bool.eq_false_iff.mpr c13
  subst c13
  have H1 : (some true) = some r := by rw [if_neg (show ¬ (false = true) by decide)] at H; exact H
  clear H
  have H := H1
  clear H1
  obtain rfl := Option.some.inj H
  go_enter Try.func8, Try.ntmps8
  try go_wp2_with (first | ((with_reducible refine gate_dst (N := 2) rfl ?_); (try (refine gate_guard (by rfl) ?_; dsimp only)); refine box_event ?hg (N := 2) ?hd (cs := #[.int .i64 a0_0, .int .u32 a0_1, .int .u32 a0_2, .int .i64 a0_3, .int .i64 a0_4]) (t := 30) ?hr ?_; (case hd => rfl); (case hg => rfl); (case hr => first | (go_simp; done) | (go_simp; rfl)); intro gb660 hg w45 hbox hb; have n0_ := Aside0.mk (below_step (BW HB) hb); have n1_ := Aside0.mk (hbox); have n2_ := Aside0.mk ((by rw [hg]; exact (below_size (BW HB)) : w.heap.size ≤ gb660)); have n3_ := Aside0.mk ((by rw [hg]; exact (below_size (BW HB)) : w.heap.size ≤ gb660)); clear HB; have HB := n0_; have BK660 := n1_; have GW660 := n2_; have GE660 := n3_; clear n0_ n1_ n2_ n3_; clear hb hbox hg) | ((with_reducible refine gate_dst (N := 3) rfl ?_); (try (refine gate_guard (by rfl) ?_; dsimp only)); refine box_event ?hg (N := 3) ?hd (cs := #[.int .i64 a1_0, .int .u32 a1_1, .int .u32 a1_2, .int .i64 a1_3, .int .i64 a1_4]) (t := 30) ?hr ?_; (case hd => rfl); (case hg => rfl); (case hr => first | (go_simp; done) | (go_simp; rfl)); intro gb661 hg w46 hbox hb; have n0_ := Aside0.mk (blkB BK660 hb); have n1_ := Aside0.mk (below_step (BW HB) hb); have n2_ := Aside0.mk (hbox); have n3_ := Aside0.mk ((by rw [hg]; exact (below_size (BW HB)) : w.heap.size ≤ gb661)); have n4_ := Aside0.mk ((by rw [hg]; exact (below_size (BW HB)) : w.heap.size ≤ gb661)); have n5_ := Aside0.mk ((by rw [hg]; exact Nat.ne_of_lt (blk_lt (g := gb660) (o := .cells #[.int .i64 a0_0, .int .u32 a0_1, .int .u32 a0_2, .int .i64 a0_3, .int .i64 a0_4] 30 (0, 0)) (BD BK660)) : gb660 ≠ gb661)); have n6_ := Aside0.mk ((by rw [hg]; exact Nat.ne_of_gt (blk_lt (g := gb660) (o := .cells #[.int .i64 a0_0, .int .u32 a0_1, .int .u32 a0_2, .int .i64 a0_3, .int .i64 a0_4] 30 (0, 0)) (BD BK660)) : gb661 ≠ gb660)); clear BK660; clear HB; have BK660 := n0_; have HB := n1_; have BK661 := n2_; have GW661 := n3_; have GE661 := n4_; have NB660_661 := n5_; have NB661_660 := n6_; clear n0_ n1_ n2_ n3_ n4_ n5_ n6_; clear hb hbox hg) | ((with_reducible refine gate_callee (f := 9) rfl ?_); refine goesL_ (some 12) rfl rfl Try.func9 (by kernel_rfl) rfl #[] rfl AG ?_; (with_reducible refine (weighbridgelaw09_examples.calls  true _ A3.out).mono ?_); rintro e w47 ⟨rfl, hb⟩; (try clear A3); refine ⟨_, rfl, ?_⟩; have n0_ := Aside0.mk (blkB BK660 hb); have n1_ := Aside0.mk (blkB BK661 hb); have n2_ := Aside0.mk (below_step (BW HB) hb); clear BK660; clear BK661; clear HB; have BK660 := n0_; have BK661 := n1_; have HB := n2_; clear n0_ n1_ n2_; (try clear hb); (try clear hb2); (try clear hk); (try clear hi); have hnb48 := NB660_661.out; have hnc48 := NB661_660.out; obtain ⟨hcz49_0, hcz49_1, hcz49_2, hcz49_3, hcz49_4, hfz49_0, hfz49_1, hfz49_2, hfz49_3, hfz49_4⟩ := blk5 BK660.out) | ((with_reducible refine gate_callee (f := 16) rfl ?_); refine goesL_ (some 17) rfl rfl Try.func16 (by kernel_rfl) rfl #[.agg #[.int .i64 a0_0, .int .u32 a0_1, .int .u32 a0_2, .int .i64 a0_3, .int .i64 a0_4]] rfl AG ?_; (with_reducible refine (packet_Key.calls a0_0 a0_1 a0_2 a0_3 a0_4 t663 false _ A5.out).mono ?_); rintro e w50 ⟨rfl, hb⟩; (try clear A5); refine ⟨_, rfl, ?_⟩; have n0_ := Aside0.mk (blkB BK660 hb); have n1_ := Aside0.mk (blkB BK661 hb); have n2_ := Aside0.mk (below_step (BW HB) hb); clear BK660; clear BK661; clear HB; have BK660 := n0_; have BK661 := n1_; have HB := n2_; clear n0_ n1_ n2_; (try clear hb); (try clear hb2); (try clear hk); (try clear hi); obtain ⟨hcz51_0, hcz51_1, hcz51_2, hcz51_3, hcz51_4, hfz51_0, hfz51_1, hfz51_2, hfz51_3, hfz51_4⟩ := blk5 BK661.out) | ((with_reducible refine gate_callee (f := 16) rfl ?_); refine goesL_ (some 22) rfl rfl Try.func16 (by kernel_rfl) rfl #[.agg #[.int .i64 a1_0, .int .u32 a1_1, .int .u32 a1_2, .int .i64 a1_3, .int .i64 a1_4]] rfl AG ?_; (with_reducible refine (packet_Key.calls a1_0 a1_1 a1_2 a1_3 a1_4 t665 t666 _ A6.out).mono ?_); rintro e w52 ⟨rfl, hb⟩; (try clear A6); refine ⟨_, rfl, ?_⟩; have n0_ := Aside0.mk (blkB BK660 hb); have n1_ := Aside0.mk (blkB BK661 hb); have n2_ := Aside0.mk (below_step (BW HB) hb); clear BK660; clear BK661; clear HB; have BK660 := n0_; have BK661 := n1_; have HB := n2_; clear n0_ n1_ n2_; (try clear hb); (try clear hb2); (try clear hk); (try clear hi); obtain ⟨hcz53_0, hcz53_1, hcz53_2, hcz53_3, hcz53_4, hfz53_0, hfz53_1, hfz53_2, hfz53_3, hfz53_4⟩ := blk5 BK660.out) | ((with_reducible refine gate_callee (f := 18) rfl ?_); refine goesL_ (some 27) rfl rfl Try.func18 (by kernel_rfl) rfl #[.agg #[.int .i64 a0_0, .int .u32 a0_1, .int .u32 a0_2, .int .i64 a0_3, .int .i64 a0_4]] rfl AG ?_; (with_reducible refine (packet_Reverse.calls a0_0 a0_1 a0_2 a0_3 a0_4 t667 t668 t669 t670 t671 _ A7.out).mono ?_); rintro e w54 ⟨rfl, hb⟩; (try clear A7); refine ⟨_, rfl, ?_⟩; have n0_ := Aside0.mk (blkB BK660 hb); have n1_ := Aside0.mk (blkB BK661 hb); have n2_ := Aside0.mk (below_step (BW HB) hb); clear BK660; clear BK661; clear HB; have BK660 := n0_; have BK661 := n1_; have HB := n2_; clear n0_ n1_ n2_; (try clear hb); (try clear hb2); (try clear hk); (try clear hi)) | ((with_reducible refine gate_callee (f := 16) rfl ?_); refine goesL_ (some 28) rfl rfl Try.func16 (by kernel_rfl) rfl #[.agg #[.int .i64 t667, .int .u32 t668, .int .u32 t669, .int .i64 t670, .int .i64 t671]] rfl AG ?_; (with_reducible refine (packet_Key.calls t667 t668 t669 t670 t671 t672 t673 _ A8.out).mono ?_); rintro e w55 ⟨rfl, hb⟩; (try clear A8); refine ⟨_, rfl, ?_⟩; have n0_ := Aside0.mk (blkB BK660 hb); have n1_ := Aside0.mk (blkB BK661 hb); have n2_ := Aside0.mk (below_step (BW HB) hb); clear BK660; clear BK661; clear HB; have BK660 := n0_; have BK661 := n1_; have HB := n2_; clear n0_ n1_ n2_; (try clear hb); (try clear hb2); (try clear hk); (try clear hi)))
  have n0_ := Aside0.mk (blk_drew BK660.out)
  have n1_ := Aside0.mk (blk_drew BK661.out)
  have n2_ := Aside0.mk (below_drew1 HB.out)
  clear BK660
  clear BK661
  clear HB
  have BK660 := n0_
  have BK661 := n1_
  have HB := n2_
  clear n0_ n1_ n2_
  refine start_ (n := 45) (S := fun w' => w'.cell? ⟨gb660, 0, none⟩ = some (.int .i64 a0_0) ∧ w'.cell? ⟨gb660, 1, none⟩ = some (.int .u32 a0_1) ∧ w'.cell? ⟨gb660, 2, none⟩ = some (.int .u32 a0_2) ∧ w'.cell? ⟨gb660, 3, none⟩ = some (.int .i64 a0_3) ∧ w'.cell? ⟨gb660, 4, none⟩ = some (.int .i64 a0_4)) (ds := []) (bm 45 0x0) (by kernel_rfl) rfl rfl ⟨(blk_cell BK660.out 0).trans rfl, (blk_cell BK660.out 1).trans rfl, (blk_cell BK660.out 2).trans rfl, (blk_cell BK660.out 3).trans rfl, (blk_cell BK660.out 4).trans rfl⟩ (fun hHeld => ?_); refine with_tabW weighbridgelaw09_PacketBack.tab7 weighbridgelaw09_PacketBack.bits7 (fun HT_ HW_ => ?_)
  generalize w55.drew = w56 at BK660 BK661 HB hHeld ⊢
  refine pure_ (i := 0) (N := some 31) (v := ?_) (a' := ?_) (bm 45 0x1) rfl rfl (any_of HT_.out (by kernel_rfl)) (fun _ _ _ h => h) (Or.inl ⟨by rfl, ?_⟩) ?_ ?_
  rotate_left
  ·intro w'
   go_simp
   with_reducible rfl
  rotate_left
  ·simp only [Act.put, zpA, zpO, zpS, i64_w, i32_w]
   rfl
  refine pure_ (i := 1) (N := some 32) (v := ?_) (a' := ?_) (bm 45 0x3) rfl rfl (any_of HT_.out (by kernel_rfl)) (fun _ _ _ h => h) (Or.inl ⟨by rfl, ?_⟩) ?_ ?_
  rotate_left
  ·intro w'
   go_simp
   with_reducible rfl
  rotate_left
  ·simp only [Act.put, zpA, zpO, zpS, i64_w, i32_w]
   rfl
  refine take_ (i := 2) (N := some 33) (v := ?_) (a' := ?_) (bm 45 0x7) rfl rfl (take_ofW HT_.out HW_.out (by kernel_rfl)) (fun _ _ _ h => h) (Or.inl ⟨by rfl, ?_⟩) hHeld ?_ ?_
  rotate_left
  ·rintro w' ⟨s0, s1, s2, s3, s4⟩
   go_simp
   with_reducible rfl
  rotate_left
  ·simp only [Act.put, zpA, zpO, zpS, i64_w, i32_w]
   rfl
  refine take_ (i := 5) (N := some 36) (v := ?_) (a' := ?_) (bm 45 0x27) rfl rfl (take_ofW HT_.out HW_.out (by kernel_rfl)) (fun _ _ _ h => h) (Or.inl ⟨by rfl, ?_⟩) hHeld ?_ ?_
  rotate_left
  ·rintro w' ⟨s0, s1, s2, s3, s4⟩
   go_simp
   with_reducible rfl
  rotate_left
  ·simp only [Act.put, zpA, zpO, zpS, i64_w, i32_w]
   rfl
  refine one_ (i := 3) (N := some 34) (bm 45 0x2f) rfl rfl (one_of HT_.out (by kernel_rfl)) (by decide) (fun K hK => ?_)
  refine goes_ Try.func18 (by kernel_rfl) rfl #[.agg #[.int .i64 a0_0, .int .u32 a0_1, .int .u32 a0_2, .int .i64 a0_3, .int .i64 a0_4]] (by rfl) rfl rfl (by (try simp only [List.map_toArray, List.map_cons, List.map_nil]); first | done | rfl | (simp only [Int.toNat_natCast]; first | done | rfl) | (rw [Int.toNat_natCast, ByteArray.extract_zero_size]; rfl) | (simp only [List.length_drop, List.length_take]; rfl)) ?_
  with_reducible refine (packet_Reverse.calls a0_0 a0_1 a0_2 a0_3 a0_4 t674 t675 t676 t677 t678 _ A9.out).mono ?_
  rintro e w57 ⟨rfl, hb⟩
  refine ⟨_, rfl, ?_⟩
  have n0_ := Aside0.mk (blkB BK660 hb)
  have n1_ := Aside0.mk (blkB BK661 hb)
  have n2_ := Aside0.mk (below_step (BW HB) hb)
  clear BK660
  clear BK661
  clear HB
  have BK660 := n0_
  have BK661 := n1_
  have HB := n2_
  clear n0_ n1_ n2_
  (try clear hb)
  (try clear hb2)
  (try clear hk)
  (try clear hi)
  refine hK.out _ _ ⟨(blk_cell BK660.out 0).trans rfl, (blk_cell BK660.out 1).trans rfl, (blk_cell BK660.out 2).trans rfl, (blk_cell BK660.out 3).trans rfl, (blk_cell BK660.out 4).trans rfl⟩ (fun hHeld => ?_)
  clear hK K
  refine norm_ (a' := ?_) ?_ ?_
  rotate_left
  ·show Act.put _ (some 34) _ = _
   simp only [Act.put, zpA, zpO, zpS, i64_w, i32_w]
   rfl
  refine one_ (i := 4) (N := some 35) (bm 45 0x3f) rfl rfl (one_of HT_.out (by kernel_rfl)) (by decide) (fun K hK => ?_)
  refine goes_ Try.func18 (by kernel_rfl) rfl #[.agg #[.int .i64 t674, .int .u32 t675, .int .u32 t676, .int .i64 t677, .int .i64 t678]] (by rfl) rfl rfl (by (try simp only [List.map_toArray, List.map_cons, List.map_nil]); first | done | rfl | (simp only [Int.toNat_natCast]; first | done | rfl) | (rw [Int.toNat_natCast, ByteArray.extract_zero_size]; rfl) | (simp only [List.length_drop, List.length_take]; rfl)) ?_
  with_reducible refine (packet_Reverse.calls t674 t675 t676 t677 t678 t679 t680 t681 t682 t683 _ A10.out).mono ?_
  rintro e w58 ⟨rfl, hb⟩
  refine ⟨_, rfl, ?_⟩
  have n0_ := Aside0.mk (blkB BK660 hb)
  have n1_ := Aside0.mk (blkB BK661 hb)
  have n2_ := Aside0.mk (below_step (BW HB) hb)
  clear BK660
  clear BK661
  clear HB
  have BK660 := n0_
  have BK661 := n1_
  have HB := n2_
  clear n0_ n1_ n2_
  (try clear hb)
  (try clear hb2)
  (try clear hk)
  (try clear hi)
  refine hK.out _ _ ⟨(blk_cell BK660.out 0).trans rfl, (blk_cell BK660.out 1).trans rfl, (blk_cell BK660.out 2).trans rfl, (blk_cell BK660.out 3).trans rfl, (blk_cell BK660.out 4).trans rfl⟩ (fun hHeld => ?_)
  clear hK K
  refine norm_ (a' := ?_) ?_ ?_
  rotate_left
  ·show Act.put _ (some 35) _ = _
   simp only [Act.put, zpA, zpO, zpS, i64_w, i32_w]
   rfl
  refine pure_ (i := 6) (N := some 37) (v := ?_) (a' := ?_) (bm 45 0x7f) rfl rfl (any_of HT_.out (by kernel_rfl)) (fun _ _ _ h => h) (Or.inl ⟨by rfl, ?_⟩) ?_ ?_
  rotate_left
  ·intro w'
   go_simp
   with_reducible rfl
  rotate_left
  ·simp only [Act.put, zpA, zpO, zpS, i64_w, i32_w]
   rfl
  refine pure_ (i := 7) (N := some 38) (v := ?_) (a' := ?_) (bm 45 0xff) rfl rfl (any_of HT_.out (by kernel_rfl)) (fun _ _ _ h => h) (Or.inl ⟨by rfl, ?_⟩) ?_ ?_
  rotate_left
  ·intro w'
   go_simp
   with_reducible rfl
  rotate_left
  ·simp only [Act.put, zpA, zpO, zpS, i64_w, i32_w]
   rfl
  refine pure_ (i := 8) (N := some 39) (v := ?_) (a' := ?_) (bm 45 0x1ff) rfl rfl (any_of HT_.out (by kernel_rfl)) (fun _ _ _ h => h) (Or.inl ⟨by rfl, ?_⟩) ?_ ?_
  rotate_left
  ·intro w'
   go_simp
   with_reducible rfl
  rotate_left
  ·simp only [Act.put, zpA, zpO, zpS, i64_w, i32_w]
   rfl
  refine pure_ (i := 9) (N := some 40) (v := ?_) (a' := ?_) (bm 45 0x3ff) rfl rfl (any_of HT_.out (by kernel_rfl)) (fun _ _ _ h => h) (Or.inl ⟨by rfl, ?_⟩) ?_ ?_
  rotate_left
  ·intro w'
   go_simp
   with_reducible rfl
  rotate_left
  ·simp only [Act.put, zpA, zpO, zpS, i64_w, i32_w]
   rfl
  refine pure_ (i := 10) (N := some 41) (v := ?_) (a' := ?_) (bm 45 0x7ff) rfl rfl (any_of HT_.out (by kernel_rfl)) (fun _ _ _ h => h) (Or.inl ⟨by rfl, ?_⟩) ?_ ?_
  rotate_left
  ·intro w'
   go_simp
   with_reducible rfl
  rotate_left
  ·simp only [Act.put, zpA, zpO, zpS, i64_w, i32_w]
   rfl
  refine pure_ (i := 11) (N := some 42) (v := ?_) (a' := ?_) (bm 45 0xfff) rfl rfl (any_of HT_.out (by kernel_rfl)) (fun _ _ _ h => h) (Or.inl ⟨by rfl, ?_⟩) ?_ ?_
  rotate_left
  ·intro w'
   go_simp
   with_reducible rfl
  rotate_left
  ·simp only [Act.put, zpA, zpO, zpS, i64_w, i32_w]
   rfl
  refine pure_ (i := 12) (N := some 43) (v := ?_) (a' := ?_) (bm 45 0x1fff) rfl rfl (any_of HT_.out (by kernel_rfl)) (fun _ _ _ h => h) (Or.inl ⟨by rfl, ?_⟩) ?_ ?_
  rotate_left
  ·intro w'
   go_simp
   with_reducible rfl
  rotate_left
  ·simp only [Act.put, zpA, zpO, zpS, i64_w, i32_w]
   rfl
  refine pure_ (i := 13) (N := some 44) (v := ?_) (a' := ?_) (bm 45 0x3fff) rfl rfl (any_of HT_.out (by kernel_rfl)) (fun _ _ _ h => h) (Or.inl ⟨by rfl, ?_⟩) ?_ ?_
  rotate_left
  ·intro w'
   go_simp
   with_reducible rfl
  rotate_left
  ·simp only [Act.put, zpA, zpO, zpS, i64_w, i32_w]
   rfl
  refine pure_ (i := 14) (N := some 45) (v := ?_) (a' := ?_) (bm 45 0x7fff) rfl rfl (any_of HT_.out (by kernel_rfl)) (fun _ _ _ h => h) (Or.inl ⟨by rfl, ?_⟩) ?_ ?_
  rotate_left
  ·intro w'
   go_simp
   with_reducible rfl
  rotate_left
  ·simp only [Act.put, zpA, zpO, zpS, i64_w, i32_w]
   rfl
  refine pure_ (i := 15) (N := some 46) (v := ?_) (a' := ?_) (bm 45 0xffff) rfl rfl (any_of HT_.out (by kernel_rfl)) (fun _ _ _ h => h) (Or.inl ⟨by rfl, ?_⟩) ?_ ?_
  rotate_left
  ·intro w'
   go_simp
   with_reducible rfl
  rotate_left
  ·simp only [Act.put, zpA, zpO, zpS, i64_w, i32_w]
   rfl
  refine pure_ (i := 16) (N := some 47) (v := ?_) (a' := ?_) (bm 45 0x1ffff) rfl rfl (any_of HT_.out (by kernel_rfl)) (fun _ _ _ h => h) (Or.inl ⟨by rfl, ?_⟩) ?_ ?_
  rotate_left
  ·intro w'
   go_simp
   with_reducible rfl
  rotate_left
  ·simp only [Act.put, zpA, zpO, zpS, i64_w, i32_w]
   rfl
  refine pure_ (i := 17) (N := some 48) (v := undef) (a' := ?_) (bm 45 0x3ffff) rfl rfl (any_of HT_.out (by kernel_rfl)) (fun _ _ _ h => h) (Or.inr ⟨by rfl, rfl⟩) ?_ ?_
  rotate_left
  ·simp only [Act.put, zpA, zpO, zpS, i64_w, i32_w]
   rfl
  refine pure_ (i := 18) (N := some 49) (v := undef) (a' := ?_) (bm 45 0x7ffff) rfl rfl (any_of HT_.out (by kernel_rfl)) (fun _ _ _ h => h) (Or.inr ⟨by rfl, rfl⟩) ?_ ?_
  rotate_left
  ·simp only [Act.put, zpA, zpO, zpS, i64_w, i32_w]
   rfl
  refine pure_ (i := 19) (N := some 50) (v := undef) (a' := ?_) (bm 45 0xfffff) rfl rfl (any_of HT_.out (by kernel_rfl)) (fun _ _ _ h => h) (Or.inr ⟨by rfl, rfl⟩) ?_ ?_
  rotate_left
  ·simp only [Act.put, zpA, zpO, zpS, i64_w, i32_w]
   rfl
  refine pure_ (i := 20) (N := some 51) (v := undef) (a' := ?_) (bm 45 0x1fffff) rfl rfl (any_of HT_.out (by kernel_rfl)) (fun _ _ _ h => h) (Or.inr ⟨by rfl, rfl⟩) ?_ ?_
  rotate_left
  ·simp only [Act.put, zpA, zpO, zpS, i64_w, i32_w]
   rfl
  refine pure_ (i := 21) (N := some 52) (v := undef) (a' := ?_) (bm 45 0x3fffff) rfl rfl (any_of HT_.out (by kernel_rfl)) (fun _ _ _ h => h) (Or.inr ⟨by rfl, rfl⟩) ?_ ?_
  rotate_left
  ·simp only [Act.put, zpA, zpO, zpS, i64_w, i32_w]
   rfl
  refine pure_ (i := 22) (N := some 53) (v := undef) (a' := ?_) (bm 45 0x7fffff) rfl rfl (any_of HT_.out (by kernel_rfl)) (fun _ _ _ h => h) (Or.inr ⟨by rfl, rfl⟩) ?_ ?_
  rotate_left
  ·simp only [Act.put, zpA, zpO, zpS, i64_w, i32_w]
   rfl
  refine pure_ (i := 23) (N := some 54) (v := undef) (a' := ?_) (bm 45 0xffffff) rfl rfl (any_of HT_.out (by kernel_rfl)) (fun _ _ _ h => h) (Or.inr ⟨by rfl, rfl⟩) ?_ ?_
  rotate_left
  ·simp only [Act.put, zpA, zpO, zpS, i64_w, i32_w]
   rfl
  refine pure_ (i := 24) (N := some 55) (v := undef) (a' := ?_) (bm 45 0x1ffffff) rfl rfl (any_of HT_.out (by kernel_rfl)) (fun _ _ _ h => h) (Or.inr ⟨by rfl, rfl⟩) ?_ ?_
  rotate_left
  ·simp only [Act.put, zpA, zpO, zpS, i64_w, i32_w]
   rfl
  refine pure_ (i := 25) (N := some 56) (v := ?_) (a' := ?_) (bm 45 0x3ffffff) rfl rfl (any_of HT_.out (by kernel_rfl)) (fun _ _ _ h => h) (Or.inl ⟨by rfl, ?_⟩) ?_ ?_
  rotate_left
  ·intro w'
   go_simp
   with_reducible rfl
  rotate_left
  ·simp only [Act.put, zpA, zpO, zpS, i64_w, i32_w]
   rfl
  refine pure_ (i := 26) (N := some 57) (v := ?_) (a' := ?_) (bm 45 0x7ffffff) rfl rfl (any_of HT_.out (by kernel_rfl)) (fun _ _ _ h => h) (Or.inl ⟨by rfl, ?_⟩) ?_ ?_
  rotate_left
  ·intro w'
   go_simp
   with_reducible rfl
  rotate_left
  ·simp only [Act.put, zpA, zpO, zpS, i64_w, i32_w]
   rfl
  refine pure_ (i := 27) (N := some 58) (v := ?_) (a' := ?_) (bm 45 0xfffffff) rfl rfl (any_of HT_.out (by kernel_rfl)) (fun _ _ _ h => h) (Or.inl ⟨by rfl, ?_⟩) ?_ ?_
  rotate_left
  ·intro w'
   go_simp
   with_reducible rfl
  rotate_left
  ·simp only [Act.put, zpA, zpO, zpS, i64_w, i32_w]
   rfl
  refine pure_ (i := 28) (N := some 59) (v := ?_) (a' := ?_) (bm 45 0x1fffffff) rfl rfl (any_of HT_.out (by kernel_rfl)) (fun _ _ _ h => h) (Or.inl ⟨by rfl, ?_⟩) ?_ ?_
  rotate_left
  ·intro w'
   go_simp
   with_reducible rfl
  rotate_left
  ·simp only [Act.put, zpA, zpO, zpS, i64_w, i32_w]
   rfl
  refine pure_ (i := 29) (N := some 60) (v := ?_) (a' := ?_) (bm 45 0x3fffffff) rfl rfl (any_of HT_.out (by kernel_rfl)) (fun _ _ _ h => h) (Or.inl ⟨by rfl, ?_⟩) ?_ ?_
  rotate_left
  ·intro w'
   go_simp
   with_reducible rfl
  rotate_left
  ·simp only [Act.put, zpA, zpO, zpS, i64_w, i32_w]
   rfl
  refine pure_ (i := 30) (N := some 61) (v := ?_) (a' := ?_) (bm 45 0x7fffffff) rfl rfl (any_of HT_.out (by kernel_rfl)) (fun _ _ _ h => h) (Or.inl ⟨by rfl, ?_⟩) ?_ ?_
  rotate_left
  ·intro w'
   go_simp
   with_reducible rfl
  rotate_left
  ·simp only [Act.put, zpA, zpO, zpS, i64_w, i32_w]
   rfl
  refine pure_ (i := 31) (N := some 62) (v := undef) (a' := ?_) (bm 45 0xffffffff) rfl rfl (any_of HT_.out (by kernel_rfl)) (fun _ _ _ h => h) (Or.inr ⟨by rfl, rfl⟩) ?_ ?_
  rotate_left
  ·simp only [Act.put, zpA, zpO, zpS, i64_w, i32_w]
   rfl
  refine pure_ (i := 32) (N := some 63) (v := undef) (a' := ?_) (bm 45 0x1ffffffff) rfl rfl (any_of HT_.out (by kernel_rfl)) (fun _ _ _ h => h) (Or.inr ⟨by rfl, rfl⟩) ?_ ?_
  rotate_left
  ·simp only [Act.put, zpA, zpO, zpS, i64_w, i32_w]
   rfl
  refine pure_ (i := 33) (N := some 64) (v := ?_) (a' := ?_) (bm 45 0x3ffffffff) rfl rfl (any_of HT_.out (by kernel_rfl)) (fun _ _ _ h => h) (Or.inl ⟨by rfl, ?_⟩) ?_ ?_
  rotate_left
  ·intro w'
   go_simp
   with_reducible rfl
  rotate_left
  ·simp only [Act.put, zpA, zpO, zpS, i64_w, i32_w]
   rfl
  refine pure_ (i := 34) (N := some 65) (v := ?_) (a' := ?_) (bm 45 0x7ffffffff) rfl rfl (any_of HT_.out (by kernel_rfl)) (fun _ _ _ h => h) (Or.inl ⟨by rfl, ?_⟩) ?_ ?_
  rotate_left
  ·intro w'
   go_simp
   with_reducible rfl
  rotate_left
  ·simp only [Act.put, zpA, zpO, zpS, i64_w, i32_w]
   rfl
  refine pure_ (i := 35) (N := some 66) (v := undef) (a' := ?_) (bm 45 0xfffffffff) rfl rfl (any_of HT_.out (by kernel_rfl)) (fun _ _ _ h => h) (Or.inr ⟨by rfl, rfl⟩) ?_ ?_
  rotate_left
  ·simp only [Act.put, zpA, zpO, zpS, i64_w, i32_w]
   rfl
  refine pure_ (i := 36) (N := some 67) (v := undef) (a' := ?_) (bm 45 0x1fffffffff) rfl rfl (any_of HT_.out (by kernel_rfl)) (fun _ _ _ h => h) (Or.inr ⟨by rfl, rfl⟩) ?_ ?_
  rotate_left
  ·simp only [Act.put, zpA, zpO, zpS, i64_w, i32_w]
   rfl
  refine pure_ (i := 37) (N := some 68) (v := undef) (a' := ?_) (bm 45 0x3fffffffff) rfl rfl (any_of HT_.out (by kernel_rfl)) (fun _ _ _ h => h) (Or.inr ⟨by rfl, rfl⟩) ?_ ?_
  rotate_left
  ·simp only [Act.put, zpA, zpO, zpS, i64_w, i32_w]
   rfl
  refine pure_ (i := 38) (N := some 69) (v := undef) (a' := ?_) (bm 45 0x7fffffffff) rfl rfl (any_of HT_.out (by kernel_rfl)) (fun _ _ _ h => h) (Or.inr ⟨by rfl, rfl⟩) ?_ ?_
  rotate_left
  ·simp only [Act.put, zpA, zpO, zpS, i64_w, i32_w]
   rfl
  refine pure_ (i := 39) (N := some 70) (v := undef) (a' := ?_) (bm 45 0xffffffffff) rfl rfl (any_of HT_.out (by kernel_rfl)) (fun _ _ _ h => h) (Or.inr ⟨by rfl, rfl⟩) ?_ ?_
  rotate_left
  ·simp only [Act.put, zpA, zpO, zpS, i64_w, i32_w]
   rfl
  refine pure_ (i := 40) (N := some 71) (v := undef) (a' := ?_) (bm 45 0x1ffffffffff) rfl rfl (any_of HT_.out (by kernel_rfl)) (fun _ _ _ h => h) (Or.inr ⟨by rfl, rfl⟩) ?_ ?_
  rotate_left
  ·simp only [Act.put, zpA, zpO, zpS, i64_w, i32_w]
   rfl
  refine pure_ (i := 41) (N := some 72) (v := undef) (a' := ?_) (bm 45 0x3ffffffffff) rfl rfl (any_of HT_.out (by kernel_rfl)) (fun _ _ _ h => h) (Or.inr ⟨by rfl, rfl⟩) ?_ ?_
  rotate_left
  ·simp only [Act.put, zpA, zpO, zpS, i64_w, i32_w]
   rfl
  refine pure_ (i := 42) (N := some 73) (v := ?_) (a' := ?_) (bm 45 0x7ffffffffff) rfl rfl (any_of HT_.out (by kernel_rfl)) (fun _ _ _ h => h) (Or.inl ⟨by rfl, ?_⟩) ?_ ?_
  rotate_left
  ·intro w'
   go_simp
   with_reducible rfl
  rotate_left
  ·simp only [Act.put, zpA, zpO, zpS, i64_w, i32_w]
   rfl
  refine pure_ (i := 43) (N := some 74) (v := ?_) (a' := ?_) (bm 45 0xfffffffffff) rfl rfl (any_of HT_.out (by kernel_rfl)) (fun _ _ _ h => h) (Or.inl ⟨by rfl, ?_⟩) ?_ ?_
  rotate_left
  ·intro w'
   go_simp
   with_reducible rfl
  rotate_left
  ·simp only [Act.put, zpA, zpO, zpS, i64_w, i32_w]
   rfl
  refine pure_ (i := 44) (N := some 4) (v := ?_) (a' := ?_) (bm 45 0x1fffffffffff) rfl rfl (any_of HT_.out (by kernel_rfl)) (fun _ _ _ h => h) (Or.inl ⟨by rfl, ?_⟩) ?_ ?_
  rotate_left
  ·intro w'
   go_simp
   with_reducible rfl
  rotate_left
  ·simp only [Act.put, zpA, zpO, zpS, i64_w, i32_w]
   rfl
  refine done_ (done_of HT_.out (by kernel_rfl)) ?_
  try go_wp2
  go_ret
  exact ⟨RT, BW HB⟩
 subst c13
 first | rw [if_pos rfl] at H | rw [if_pos trivial] at H
 by_cases c14 : (t663.size : Int) = 13
 rotate_left
 ·rw [if_neg c14] at H
  have c14b0 : ((t663.size : Int) == 13) = false := beq_eq_false_iff_ne.mpr c14
  have c14b1 : ((t663.size : Int) != 13) = true := bne_iff_ne.mpr c14
  exact absurd ((Option.some.inj H).trans hr_) (by decide)
 rw [if_pos c14] at H
 have c14b0 : ((t663.size : Int) == 13) = true := beq_iff_eq.mpr c14
 have c14b1 : ((t663.size : Int) != 13) = false := bne_eq_false_iff_eq.mpr c14
 clear c14
 by_cases c15 : (t672.size : Int) = 13
 rotate_left
 ·rw [if_neg c15] at H
  have c15b0 : ((t672.size : Int) == 13) = false := beq_eq_false_iff_ne.mpr c15
  have c15b1 : ((t672.size : Int) != 13) = true := bne_iff_ne.mpr c15
  exact absurd ((Option.some.inj H).trans hr_) (by decide)
 rw [if_pos c15] at H
 have c15b0 : ((t672.size : Int) == 13) = true := beq_iff_eq.mpr c15
 have c15b1 : ((t672.size : Int) != 13) = false := bne_eq_false_iff_eq.mpr c15
 clear c15
 by_cases c16 : t666 = true
 rotate_left
 ·replace c16 := Bool.eq_false_iff.mpr c16
  subst c16
  have H1 : (some true) = some r := by rw [if_neg (show ¬ (false = true) by decide)] at H; exact H
  clear H
  have H := H1
  clear H1
  obtain rfl := Option.some.inj H
  go_enter Try.func8, Try.ntmps8
  try go_wp2_with (first | ((with_reducible refine gate_dst (N := 2) rfl ?_); (try (refine gate_guard (by rfl) ?_; dsimp only)); refine box_event ?hg (N := 2) ?hd (cs := #[.int .i64 a0_0, .int .u32 a0_1, .int .u32 a0_2, .int .i64 a0_3, .int .i64 a0_4]) (t := 30) ?hr ?_; (case hd => rfl); (case hg => rfl); (case hr => first | (go_simp; done) | (go_simp; rfl)); intro gb660 hg w31 hbox hb; have n0_ := Aside0.mk (below_step (BW HB) hb); have n1_ := Aside0.mk (hbox); have n2_ := Aside0.mk ((by rw [hg]; exact (below_size (BW HB)) : w.heap.size ≤ gb660)); have n3_ := Aside0.mk ((by rw [hg]; exact (below_size (BW HB)) : w.heap.size ≤ gb660)); clear HB; have HB := n0_; have BK660 := n1_; have GW660 := n2_; have GE660 := n3_; clear n0_ n1_ n2_ n3_; clear hb hbox hg) | ((with_reducible refine gate_dst (N := 3) rfl ?_); (try (refine gate_guard (by rfl) ?_; dsimp only)); refine box_event ?hg (N := 3) ?hd (cs := #[.int .i64 a1_0, .int .u32 a1_1, .int .u32 a1_2, .int .i64 a1_3, .int .i64 a1_4]) (t := 30) ?hr ?_; (case hd => rfl); (case hg => rfl); (case hr => first | (go_simp; done) | (go_simp; rfl)); intro gb661 hg w32 hbox hb; have n0_ := Aside0.mk (blkB BK660 hb); have n1_ := Aside0.mk (below_step (BW HB) hb); have n2_ := Aside0.mk (hbox); have n3_ := Aside0.mk ((by rw [hg]; exact (below_size (BW HB)) : w.heap.size ≤ gb661)); have n4_ := Aside0.mk ((by rw [hg]; exact (below_size (BW HB)) : w.heap.size ≤ gb661)); have n5_ := Aside0.mk ((by rw [hg]; exact Nat.ne_of_lt (blk_lt (g := gb660) (o := .cells #[.int .i64 a0_0, .int .u32 a0_1, .int .u32 a0_2, .int .i64 a0_3, .int .i64 a0_4] 30 (0, 0)) (BD BK660)) : gb660 ≠ gb661)); have n6_ := Aside0.mk ((by rw [hg]; exact Nat.ne_of_gt (blk_lt (g := gb660) (o := .cells #[.int .i64 a0_0, .int .u32 a0_1, .int .u32 a0_2, .int .i64 a0_3, .int .i64 a0_4] 30 (0, 0)) (BD BK660)) : gb661 ≠ gb660)); clear BK660; clear HB; have BK660 := n0_; have HB := n1_; have BK661 := n2_; have GW661 := n3_; have GE661 := n4_; have NB660_661 := n5_; have NB661_660 := n6_; clear n0_ n1_ n2_ n3_ n4_ n5_ n6_; clear hb hbox hg) | ((with_reducible refine gate_callee (f := 9) rfl ?_); refine goesL_ (some 12) rfl rfl Try.func9 (by kernel_rfl) rfl #[] rfl AG ?_; (with_reducible refine (weighbridgelaw09_examples.calls  true _ A3.out).mono ?_); rintro e w33 ⟨rfl, hb⟩; (try clear A3); refine ⟨_, rfl, ?_⟩; have n0_ := Aside0.mk (blkB BK660 hb); have n1_ := Aside0.mk (blkB BK661 hb); have n2_ := Aside0.mk (below_step (BW HB) hb); clear BK660; clear BK661; clear HB; have BK660 := n0_; have BK661 := n1_; have HB := n2_; clear n0_ n1_ n2_; (try clear hb); (try clear hb2); (try clear hk); (try clear hi); have hnb34 := NB660_661.out; have hnc34 := NB661_660.out; obtain ⟨hcz35_0, hcz35_1, hcz35_2, hcz35_3, hcz35_4, hfz35_0, hfz35_1, hfz35_2, hfz35_3, hfz35_4⟩ := blk5 BK660.out) | ((with_reducible refine gate_callee (f := 16) rfl ?_); refine goesL_ (some 17) rfl rfl Try.func16 (by kernel_rfl) rfl #[.agg #[.int .i64 a0_0, .int .u32 a0_1, .int .u32 a0_2, .int .i64 a0_3, .int .i64 a0_4]] rfl AG ?_; (with_reducible refine (packet_Key.calls a0_0 a0_1 a0_2 a0_3 a0_4 t663 true _ A5.out).mono ?_); rintro e w36 ⟨rfl, hb⟩; (try clear A5); refine ⟨_, rfl, ?_⟩; have n0_ := Aside0.mk (blkB BK660 hb); have n1_ := Aside0.mk (blkB BK661 hb); have n2_ := Aside0.mk (below_step (BW HB) hb); clear BK660; clear BK661; clear HB; have BK660 := n0_; have BK661 := n1_; have HB := n2_; clear n0_ n1_ n2_; (try clear hb); (try clear hb2); (try clear hk); (try clear hi); obtain ⟨hcz37_0, hcz37_1, hcz37_2, hcz37_3, hcz37_4, hfz37_0, hfz37_1, hfz37_2, hfz37_3, hfz37_4⟩ := blk5 BK661.out) | ((with_reducible refine gate_callee (f := 16) rfl ?_); refine goesL_ (some 22) rfl rfl Try.func16 (by kernel_rfl) rfl #[.agg #[.int .i64 a1_0, .int .u32 a1_1, .int .u32 a1_2, .int .i64 a1_3, .int .i64 a1_4]] rfl AG ?_; (with_reducible refine (packet_Key.calls a1_0 a1_1 a1_2 a1_3 a1_4 t665 false _ A6.out).mono ?_); rintro e w38 ⟨rfl, hb⟩; (try clear A6); refine ⟨_, rfl, ?_⟩; have n0_ := Aside0.mk (blkB BK660 hb); have n1_ := Aside0.mk (blkB BK661 hb); have n2_ := Aside0.mk (below_step (BW HB) hb); clear BK660; clear BK661; clear HB; have BK660 := n0_; have BK661 := n1_; have HB := n2_; clear n0_ n1_ n2_; (try clear hb); (try clear hb2); (try clear hk); (try clear hi); obtain ⟨hcz39_0, hcz39_1, hcz39_2, hcz39_3, hcz39_4, hfz39_0, hfz39_1, hfz39_2, hfz39_3, hfz39_4⟩ := blk5 BK660.out) | ((with_reducible refine gate_callee (f := 18) rfl ?_); refine goesL_ (some 27) rfl rfl Try.func18 (by kernel_rfl) rfl #[.agg #[.int .i64 a0_0, .int .u32 a0_1, .int .u32 a0_2, .int .i64 a0_3, .int .i64 a0_4]] rfl AG ?_; (with_reducible refine (packet_Reverse.calls a0_0 a0_1 a0_2 a0_3 a0_4 t667 t668 t669 t670 t671 _ A7.out).mono ?_); rintro e w40 ⟨rfl, hb⟩; (try clear A7); refine ⟨_, rfl, ?_⟩; have n0_ := Aside0.mk (blkB BK660 hb); have n1_ := Aside0.mk (blkB BK661 hb); have n2_ := Aside0.mk (below_step (BW HB) hb); clear BK660; clear BK661; clear HB; have BK660 := n0_; have BK661 := n1_; have HB := n2_; clear n0_ n1_ n2_; (try clear hb); (try clear hb2); (try clear hk); (try clear hi)) | ((with_reducible refine gate_callee (f := 16) rfl ?_); refine goesL_ (some 28) rfl rfl Try.func16 (by kernel_rfl) rfl #[.agg #[.int .i64 t667, .int .u32 t668, .int .u32 t669, .int .i64 t670, .int .i64 t671]] rfl AG ?_; (with_reducible refine (packet_Key.calls t667 t668 t669 t670 t671 t672 t673 _ A8.out).mono ?_); rintro e w41 ⟨rfl, hb⟩; (try clear A8); refine ⟨_, rfl, ?_⟩; have n0_ := Aside0.mk (blkB BK660 hb); have n1_ := Aside0.mk (blkB BK661 hb); have n2_ := Aside0.mk (below_step (BW HB) hb); clear BK660; clear BK661; clear HB; have BK660 := n0_; have BK661 := n1_; have HB := n2_; clear n0_ n1_ n2_; (try clear hb); (try clear hb2); (try clear hk); (try clear hi)))
  have n0_ := Aside0.mk (blk_drew BK660.out)
  have n1_ := Aside0.mk (blk_drew BK661.out)
  have n2_ := Aside0.mk (below_drew1 HB.out)
  clear BK660
  clear BK661
  clear HB
  have BK660 := n0_
  have BK661 := n1_
  have HB := n2_
  clear n0_ n1_ n2_
  refine start_ (n := 45) (S := fun w' => w'.cell? ⟨gb660, 0, none⟩ = some (.int .i64 a0_0) ∧ w'.cell? ⟨gb660, 1, none⟩ = some (.int .u32 a0_1) ∧ w'.cell? ⟨gb660, 2, none⟩ = some (.int .u32 a0_2) ∧ w'.cell? ⟨gb660, 3, none⟩ = some (.int .i64 a0_3) ∧ w'.cell? ⟨gb660, 4, none⟩ = some (.int .i64 a0_4)) (ds := []) (bm 45 0x0) (by kernel_rfl) rfl rfl ⟨(blk_cell BK660.out 0).trans rfl, (blk_cell BK660.out 1).trans rfl, (blk_cell BK660.out 2).trans rfl, (blk_cell BK660.out 3).trans rfl, (blk_cell BK660.out 4).trans rfl⟩ (fun hHeld => ?_); refine with_tabW weighbridgelaw09_PacketBack.tab7 weighbridgelaw09_PacketBack.bits7 (fun HT_ HW_ => ?_)
  generalize w41.drew = w42 at BK660 BK661 HB hHeld ⊢
  refine pure_ (i := 0) (N := some 31) (v := ?_) (a' := ?_) (bm 45 0x1) rfl rfl (any_of HT_.out (by kernel_rfl)) (fun _ _ _ h => h) (Or.inl ⟨by rfl, ?_⟩) ?_ ?_
  rotate_left
  ·intro w'
   go_simp
   with_reducible rfl
  rotate_left
  ·simp only [Act.put, zpA, zpO, zpS, i64_w, i32_w]
   rfl
  refine pure_ (i := 1) (N := some 32) (v := ?_) (a' := ?_) (bm 45 0x3) rfl rfl (any_of HT_.out (by kernel_rfl)) (fun _ _ _ h => h) (Or.inl ⟨by rfl, ?_⟩) ?_ ?_
  rotate_left
  ·intro w'
   go_simp
   with_reducible rfl
  rotate_left
  ·simp only [Act.put, zpA, zpO, zpS, i64_w, i32_w]
   rfl
  refine take_ (i := 2) (N := some 33) (v := ?_) (a' := ?_) (bm 45 0x7) rfl rfl (take_ofW HT_.out HW_.out (by kernel_rfl)) (fun _ _ _ h => h) (Or.inl ⟨by rfl, ?_⟩) hHeld ?_ ?_
  rotate_left
  ·rintro w' ⟨s0, s1, s2, s3, s4⟩
   go_simp
   with_reducible rfl
  rotate_left
  ·simp only [Act.put, zpA, zpO, zpS, i64_w, i32_w]
   rfl
  refine take_ (i := 5) (N := some 36) (v := ?_) (a' := ?_) (bm 45 0x27) rfl rfl (take_ofW HT_.out HW_.out (by kernel_rfl)) (fun _ _ _ h => h) (Or.inl ⟨by rfl, ?_⟩) hHeld ?_ ?_
  rotate_left
  ·rintro w' ⟨s0, s1, s2, s3, s4⟩
   go_simp
   with_reducible rfl
  rotate_left
  ·simp only [Act.put, zpA, zpO, zpS, i64_w, i32_w]
   rfl
  refine one_ (i := 3) (N := some 34) (bm 45 0x2f) rfl rfl (one_of HT_.out (by kernel_rfl)) (by decide) (fun K hK => ?_)
  refine goes_ Try.func18 (by kernel_rfl) rfl #[.agg #[.int .i64 a0_0, .int .u32 a0_1, .int .u32 a0_2, .int .i64 a0_3, .int .i64 a0_4]] (by rfl) rfl rfl (by (try simp only [List.map_toArray, List.map_cons, List.map_nil]); first | done | rfl | (simp only [Int.toNat_natCast]; first | done | rfl) | (rw [Int.toNat_natCast, ByteArray.extract_zero_size]; rfl) | (simp only [List.length_drop, List.length_take]; rfl)) ?_
  with_reducible refine (packet_Reverse.calls a0_0 a0_1 a0_2 a0_3 a0_4 t674 t675 t676 t677 t678 _ A9.out).mono ?_
  rintro e w43 ⟨rfl, hb⟩
  refine ⟨_, rfl, ?_⟩
  have n0_ := Aside0.mk (blkB BK660 hb)
  have n1_ := Aside0.mk (blkB BK661 hb)
  have n2_ := Aside0.mk (below_step (BW HB) hb)
  clear BK660
  clear BK661
  clear HB
  have BK660 := n0_
  have BK661 := n1_
  have HB := n2_
  clear n0_ n1_ n2_
  (try clear hb)
  (try clear hb2)
  (try clear hk)
  (try clear hi)
  refine hK.out _ _ ⟨(blk_cell BK660.out 0).trans rfl, (blk_cell BK660.out 1).trans rfl, (blk_cell BK660.out 2).trans rfl, (blk_cell BK660.out 3).trans rfl, (blk_cell BK660.out 4).trans rfl⟩ (fun hHeld => ?_)
  clear hK K
  refine norm_ (a' := ?_) ?_ ?_
  rotate_left
  ·show Act.put _ (some 34) _ = _
   simp only [Act.put, zpA, zpO, zpS, i64_w, i32_w]
   rfl
  refine one_ (i := 4) (N := some 35) (bm 45 0x3f) rfl rfl (one_of HT_.out (by kernel_rfl)) (by decide) (fun K hK => ?_)
  refine goes_ Try.func18 (by kernel_rfl) rfl #[.agg #[.int .i64 t674, .int .u32 t675, .int .u32 t676, .int .i64 t677, .int .i64 t678]] (by rfl) rfl rfl (by (try simp only [List.map_toArray, List.map_cons, List.map_nil]); first | done | rfl | (simp only [Int.toNat_natCast]; first | done | rfl) | (rw [Int.toNat_natCast, ByteArray.extract_zero_size]; rfl) | (simp only [List.length_drop, List.length_take]; rfl)) ?_
  with_reducible refine (packet_Reverse.calls t674 t675 t676 t677 t678 t679 t680 t681 t682 t683 _ A10.out).mono ?_
  rintro e w44 ⟨rfl, hb⟩
  refine ⟨_, rfl, ?_⟩
  have n0_ := Aside0.mk (blkB BK660 hb)
  have n1_ := Aside0.mk (blkB BK661 hb)
  have n2_ := Aside0.mk (below_step (BW HB) hb)
  clear BK660
  clear BK661
  clear HB
  have BK660 := n0_
  have BK661 := n1_
  have HB := n2_
  clear n0_ n1_ n2_
  (try clear hb)
  (try clear hb2)
  (try clear hk)
  (try clear hi)
  refine hK.out _ _ ⟨(blk_cell BK660.out 0).trans rfl, (blk_cell BK660.out 1).trans rfl, (blk_cell BK660.out 2).trans rfl, (blk_cell BK660.out 3).trans rfl, (blk_cell BK660.out 4).trans rfl⟩ (fun hHeld => ?_)
  clear hK K
  refine norm_ (a' := ?_) ?_ ?_
  rotate_left
  ·show Act.put _ (some 35) _ = _
   simp only [Act.put, zpA, zpO, zpS, i64_w, i32_w]
   rfl
  refine pure_ (i := 6) (N := some 37) (v := ?_) (a' := ?_) (bm 45 0x7f) rfl rfl (any_of HT_.out (by kernel_rfl)) (fun _ _ _ h => h) (Or.inl ⟨by rfl, ?_⟩) ?_ ?_
  rotate_left
  ·intro w'
   go_simp
   with_reducible rfl
  rotate_left
  ·simp only [Act.put, zpA, zpO, zpS, i64_w, i32_w]
   rfl
  refine pure_ (i := 7) (N := some 38) (v := ?_) (a' := ?_) (bm 45 0xff) rfl rfl (any_of HT_.out (by kernel_rfl)) (fun _ _ _ h => h) (Or.inl ⟨by rfl, ?_⟩) ?_ ?_
  rotate_left
  ·intro w'
   go_simp
   with_reducible rfl
  rotate_left
  ·simp only [Act.put, zpA, zpO, zpS, i64_w, i32_w]
   rfl
  refine pure_ (i := 8) (N := some 39) (v := ?_) (a' := ?_) (bm 45 0x1ff) rfl rfl (any_of HT_.out (by kernel_rfl)) (fun _ _ _ h => h) (Or.inl ⟨by rfl, ?_⟩) ?_ ?_
  rotate_left
  ·intro w'
   go_simp
   with_reducible rfl
  rotate_left
  ·simp only [Act.put, zpA, zpO, zpS, i64_w, i32_w]
   rfl
  refine pure_ (i := 9) (N := some 40) (v := ?_) (a' := ?_) (bm 45 0x3ff) rfl rfl (any_of HT_.out (by kernel_rfl)) (fun _ _ _ h => h) (Or.inl ⟨by rfl, ?_⟩) ?_ ?_
  rotate_left
  ·intro w'
   go_simp
   with_reducible rfl
  rotate_left
  ·simp only [Act.put, zpA, zpO, zpS, i64_w, i32_w]
   rfl
  refine pure_ (i := 10) (N := some 41) (v := ?_) (a' := ?_) (bm 45 0x7ff) rfl rfl (any_of HT_.out (by kernel_rfl)) (fun _ _ _ h => h) (Or.inl ⟨by rfl, ?_⟩) ?_ ?_
  rotate_left
  ·intro w'
   go_simp
   with_reducible rfl
  rotate_left
  ·simp only [Act.put, zpA, zpO, zpS, i64_w, i32_w]
   rfl
  refine pure_ (i := 11) (N := some 42) (v := ?_) (a' := ?_) (bm 45 0xfff) rfl rfl (any_of HT_.out (by kernel_rfl)) (fun _ _ _ h => h) (Or.inl ⟨by rfl, ?_⟩) ?_ ?_
  rotate_left
  ·intro w'
   go_simp
   with_reducible rfl
  rotate_left
  ·simp only [Act.put, zpA, zpO, zpS, i64_w, i32_w]
   rfl
  refine pure_ (i := 12) (N := some 43) (v := ?_) (a' := ?_) (bm 45 0x1fff) rfl rfl (any_of HT_.out (by kernel_rfl)) (fun _ _ _ h => h) (Or.inl ⟨by rfl, ?_⟩) ?_ ?_
  rotate_left
  ·intro w'
   go_simp
   with_reducible rfl
  rotate_left
  ·simp only [Act.put, zpA, zpO, zpS, i64_w, i32_w]
   rfl
  refine pure_ (i := 13) (N := some 44) (v := ?_) (a' := ?_) (bm 45 0x3fff) rfl rfl (any_of HT_.out (by kernel_rfl)) (fun _ _ _ h => h) (Or.inl ⟨by rfl, ?_⟩) ?_ ?_
  rotate_left
  ·intro w'
   go_simp
   with_reducible rfl
  rotate_left
  ·simp only [Act.put, zpA, zpO, zpS, i64_w, i32_w]
   rfl
  refine pure_ (i := 14) (N := some 45) (v := ?_) (a' := ?_) (bm 45 0x7fff) rfl rfl (any_of HT_.out (by kernel_rfl)) (fun _ _ _ h => h) (Or.inl ⟨by rfl, ?_⟩) ?_ ?_
  rotate_left
  ·intro w'
   go_simp
   with_reducible rfl
  rotate_left
  ·simp only [Act.put, zpA, zpO, zpS, i64_w, i32_w]
   rfl
  refine pure_ (i := 15) (N := some 46) (v := ?_) (a' := ?_) (bm 45 0xffff) rfl rfl (any_of HT_.out (by kernel_rfl)) (fun _ _ _ h => h) (Or.inl ⟨by rfl, ?_⟩) ?_ ?_
  rotate_left
  ·intro w'
   go_simp
   with_reducible rfl
  rotate_left
  ·simp only [Act.put, zpA, zpO, zpS, i64_w, i32_w]
   rfl
  refine pure_ (i := 16) (N := some 47) (v := ?_) (a' := ?_) (bm 45 0x1ffff) rfl rfl (any_of HT_.out (by kernel_rfl)) (fun _ _ _ h => h) (Or.inl ⟨by rfl, ?_⟩) ?_ ?_
  rotate_left
  ·intro w'
   go_simp
   with_reducible rfl
  rotate_left
  ·simp only [Act.put, zpA, zpO, zpS, i64_w, i32_w]
   rfl
  refine pure_ (i := 17) (N := some 48) (v := ?_) (a' := ?_) (bm 45 0x3ffff) rfl rfl (any_of HT_.out (by kernel_rfl)) (fun _ _ _ h => h) (Or.inl ⟨by rfl, ?_⟩) ?_ ?_
  rotate_left
  ·intro w'
   go_simp
   with_reducible rfl
  rotate_left
  ·simp only [Act.put, zpA, zpO, zpS, i64_w, i32_w]
   rfl
  refine pure_ (i := 18) (N := some 49) (v := ?_) (a' := ?_) (bm 45 0x7ffff) rfl rfl (any_of HT_.out (by kernel_rfl)) (fun _ _ _ h => h) (Or.inl ⟨by rfl, ?_⟩) ?_ ?_
  rotate_left
  ·intro w'
   go_simp
   with_reducible rfl
  rotate_left
  ·simp only [Act.put, zpA, zpO, zpS, i64_w, i32_w]
   rfl
  refine pure_ (i := 19) (N := some 50) (v := ?_) (a' := ?_) (bm 45 0xfffff) rfl rfl (any_of HT_.out (by kernel_rfl)) (fun _ _ _ h => h) (Or.inl ⟨by rfl, ?_⟩) ?_ ?_
  rotate_left
  ·intro w'
   go_simp
   with_reducible rfl
  rotate_left
  ·simp only [Act.put, zpA, zpO, zpS, i64_w, i32_w]
   rfl
  refine pure_ (i := 20) (N := some 51) (v := ?_) (a' := ?_) (bm 45 0x1fffff) rfl rfl (any_of HT_.out (by kernel_rfl)) (fun _ _ _ h => h) (Or.inl ⟨by rfl, ?_⟩) ?_ ?_
  rotate_left
  ·intro w'
   go_simp
   with_reducible rfl
  rotate_left
  ·simp only [Act.put, zpA, zpO, zpS, i64_w, i32_w]
   rfl
  refine pure_ (i := 21) (N := some 52) (v := ?_) (a' := ?_) (bm 45 0x3fffff) rfl rfl (any_of HT_.out (by kernel_rfl)) (fun _ _ _ h => h) (Or.inl ⟨by rfl, ?_⟩) ?_ ?_
  rotate_left
  ·intro w'
   go_simp
   with_reducible rfl
  rotate_left
  ·simp only [Act.put, zpA, zpO, zpS, i64_w, i32_w]
   rfl
  refine pure_ (i := 22) (N := some 53) (v := ?_) (a' := ?_) (bm 45 0x7fffff) rfl rfl (any_of HT_.out (by kernel_rfl)) (fun _ _ _ h => h) (Or.inl ⟨by rfl, ?_⟩) ?_ ?_
  rotate_left
  ·intro w'
   go_simp
   with_reducible rfl
  rotate_left
  ·simp only [Act.put, zpA, zpO, zpS, i64_w, i32_w]
   rfl
  refine pure_ (i := 23) (N := some 54) (v := ?_) (a' := ?_) (bm 45 0xffffff) rfl rfl (any_of HT_.out (by kernel_rfl)) (fun _ _ _ h => h) (Or.inl ⟨by rfl, ?_⟩) ?_ ?_
  rotate_left
  ·intro w'
   go_simp
   with_reducible rfl
  rotate_left
  ·simp only [Act.put, zpA, zpO, zpS, i64_w, i32_w]
   rfl
  refine pure_ (i := 24) (N := some 55) (v := ?_) (a' := ?_) (bm 45 0x1ffffff) rfl rfl (any_of HT_.out (by kernel_rfl)) (fun _ _ _ h => h) (Or.inl ⟨by rfl, ?_⟩) ?_ ?_
  rotate_left
  ·intro w'
   go_simp
   with_reducible rfl
  rotate_left
  ·simp only [Act.put, zpA, zpO, zpS, i64_w, i32_w]
   rfl
  refine pure_ (i := 25) (N := some 56) (v := ?_) (a' := ?_) (bm 45 0x3ffffff) rfl rfl (any_of HT_.out (by kernel_rfl)) (fun _ _ _ h => h) (Or.inl ⟨by rfl, ?_⟩) ?_ ?_
  rotate_left
  ·intro w'
   go_simp
   with_reducible rfl
  rotate_left
  ·simp only [Act.put, zpA, zpO, zpS, i64_w, i32_w]
   rfl
  refine pure_ (i := 26) (N := some 57) (v := ?_) (a' := ?_) (bm 45 0x7ffffff) rfl rfl (any_of HT_.out (by kernel_rfl)) (fun _ _ _ h => h) (Or.inl ⟨by rfl, ?_⟩) ?_ ?_
  rotate_left
  ·intro w'
   go_simp
   with_reducible rfl
  rotate_left
  ·simp only [Act.put, zpA, zpO, zpS, i64_w, i32_w]
   rfl
  refine pure_ (i := 27) (N := some 58) (v := ?_) (a' := ?_) (bm 45 0xfffffff) rfl rfl (any_of HT_.out (by kernel_rfl)) (fun _ _ _ h => h) (Or.inl ⟨by rfl, ?_⟩) ?_ ?_
  rotate_left
  ·intro w'
   go_simp
   with_reducible rfl
  rotate_left
  ·simp only [Act.put, zpA, zpO, zpS, i64_w, i32_w]
   rfl
  refine pure_ (i := 28) (N := some 59) (v := ?_) (a' := ?_) (bm 45 0x1fffffff) rfl rfl (any_of HT_.out (by kernel_rfl)) (fun _ _ _ h => h) (Or.inl ⟨by rfl, ?_⟩) ?_ ?_
  rotate_left
  ·intro w'
   go_simp
   with_reducible rfl
  rotate_left
  ·simp only [Act.put, zpA, zpO, zpS, i64_w, i32_w]
   rfl
  refine pure_ (i := 29) (N := some 60) (v := ?_) (a' := ?_) (bm 45 0x3fffffff) rfl rfl (any_of HT_.out (by kernel_rfl)) (fun _ _ _ h => h) (Or.inl ⟨by rfl, ?_⟩) ?_ ?_
  rotate_left
  ·intro w'
   go_simp
   with_reducible rfl
  rotate_left
  ·simp only [Act.put, zpA, zpO, zpS, i64_w, i32_w]
   rfl
  refine pure_ (i := 30) (N := some 61) (v := ?_) (a' := ?_) (bm 45 0x7fffffff) rfl rfl (any_of HT_.out (by kernel_rfl)) (fun _ _ _ h => h) (Or.inl ⟨by rfl, ?_⟩) ?_ ?_
  rotate_left
  ·intro w'
   go_simp
   with_reducible rfl
  rotate_left
  ·simp only [Act.put, zpA, zpO, zpS, i64_w, i32_w]
   rfl
  refine pure_ (i := 31) (N := some 62) (v := ?_) (a' := ?_) (bm 45 0xffffffff) rfl rfl (any_of HT_.out (by kernel_rfl)) (fun _ _ _ h => h) (Or.inl ⟨by rfl, ?_⟩) ?_ ?_
  rotate_left
  ·intro w'
   go_simp
   with_reducible rfl
  rotate_left
  ·simp only [Act.put, zpA, zpO, zpS, i64_w, i32_w]
   rfl
  refine pure_ (i := 32) (N := some 63) (v := ?_) (a' := ?_) (bm 45 0x1ffffffff) rfl rfl (any_of HT_.out (by kernel_rfl)) (fun _ _ _ h => h) (Or.inl ⟨by rfl, ?_⟩) ?_ ?_
  rotate_left
  ·intro w'
   go_simp
   with_reducible rfl
  rotate_left
  ·simp only [Act.put, zpA, zpO, zpS, i64_w, i32_w]
   rfl
  refine pure_ (i := 33) (N := some 64) (v := ?_) (a' := ?_) (bm 45 0x3ffffffff) rfl rfl (any_of HT_.out (by kernel_rfl)) (fun _ _ _ h => h) (Or.inl ⟨by rfl, ?_⟩) ?_ ?_
  rotate_left
  ·intro w'
   go_simp
   with_reducible rfl
  rotate_left
  ·simp only [Act.put, zpA, zpO, zpS, i64_w, i32_w]
   rfl
  refine pure_ (i := 34) (N := some 65) (v := ?_) (a' := ?_) (bm 45 0x7ffffffff) rfl rfl (any_of HT_.out (by kernel_rfl)) (fun _ _ _ h => h) (Or.inl ⟨by rfl, ?_⟩) ?_ ?_
  rotate_left
  ·intro w'
   go_simp
   with_reducible rfl
  rotate_left
  ·simp only [Act.put, zpA, zpO, zpS, i64_w, i32_w]
   rfl
  refine pure_ (i := 35) (N := some 66) (v := undef) (a' := ?_) (bm 45 0xfffffffff) rfl rfl (any_of HT_.out (by kernel_rfl)) (fun _ _ _ h => h) (Or.inr ⟨by rfl, rfl⟩) ?_ ?_
  rotate_left
  ·simp only [Act.put, zpA, zpO, zpS, i64_w, i32_w]
   rfl
  refine pure_ (i := 36) (N := some 67) (v := undef) (a' := ?_) (bm 45 0x1fffffffff) rfl rfl (any_of HT_.out (by kernel_rfl)) (fun _ _ _ h => h) (Or.inr ⟨by rfl, rfl⟩) ?_ ?_
  rotate_left
  ·simp only [Act.put, zpA, zpO, zpS, i64_w, i32_w]
   rfl
  refine pure_ (i := 37) (N := some 68) (v := undef) (a' := ?_) (bm 45 0x3fffffffff) rfl rfl (any_of HT_.out (by kernel_rfl)) (fun _ _ _ h => h) (Or.inr ⟨by rfl, rfl⟩) ?_ ?_
  rotate_left
  ·simp only [Act.put, zpA, zpO, zpS, i64_w, i32_w]
   rfl
  refine pure_ (i := 38) (N := some 69) (v := undef) (a' := ?_) (bm 45 0x7fffffffff) rfl rfl (any_of HT_.out (by kernel_rfl)) (fun _ _ _ h => h) (Or.inr ⟨by rfl, rfl⟩) ?_ ?_
  rotate_left
  ·simp only [Act.put, zpA, zpO, zpS, i64_w, i32_w]
   rfl
  refine pure_ (i := 39) (N := some 70) (v := undef) (a' := ?_) (bm 45 0xffffffffff) rfl rfl (any_of HT_.out (by kernel_rfl)) (fun _ _ _ h => h) (Or.inr ⟨by rfl, rfl⟩) ?_ ?_
  rotate_left
  ·simp only [Act.put, zpA, zpO, zpS, i64_w, i32_w]
   rfl
  refine pure_ (i := 40) (N := some 71) (v := undef) (a' := ?_) (bm 45 0x1ffffffffff) rfl rfl (any_of HT_.out (by kernel_rfl)) (fun _ _ _ h => h) (Or.inr ⟨by rfl, rfl⟩) ?_ ?_
  rotate_left
  ·simp only [Act.put, zpA, zpO, zpS, i64_w, i32_w]
   rfl
  refine pure_ (i := 41) (N := some 72) (v := undef) (a' := ?_) (bm 45 0x3ffffffffff) rfl rfl (any_of HT_.out (by kernel_rfl)) (fun _ _ _ h => h) (Or.inr ⟨by rfl, rfl⟩) ?_ ?_
  rotate_left
  ·simp only [Act.put, zpA, zpO, zpS, i64_w, i32_w]
   rfl
  refine pure_ (i := 42) (N := some 73) (v := ?_) (a' := ?_) (bm 45 0x7ffffffffff) rfl rfl (any_of HT_.out (by kernel_rfl)) (fun _ _ _ h => h) (Or.inl ⟨by rfl, ?_⟩) ?_ ?_
  rotate_left
  ·intro w'
   go_simp
   with_reducible rfl
  rotate_left
  ·simp only [Act.put, zpA, zpO, zpS, i64_w, i32_w]
   rfl
  refine pure_ (i := 43) (N := some 74) (v := ?_) (a' := ?_) (bm 45 0xfffffffffff) rfl rfl (any_of HT_.out (by kernel_rfl)) (fun _ _ _ h => h) (Or.inl ⟨by rfl, ?_⟩) ?_ ?_
  rotate_left
  ·intro w'
   go_simp
   with_reducible rfl
  rotate_left
  ·simp only [Act.put, zpA, zpO, zpS, i64_w, i32_w]
   rfl
  refine pure_ (i := 44) (N := some 4) (v := ?_) (a' := ?_) (bm 45 0x1fffffffffff) rfl rfl (any_of HT_.out (by kernel_rfl)) (fun _ _ _ h => h) (Or.inl ⟨by rfl, ?_⟩) ?_ ?_
  rotate_left
  ·intro w'
   go_simp
   with_reducible rfl
  rotate_left
  ·simp only [Act.put, zpA, zpO, zpS, i64_w, i32_w]
   rfl
  refine done_ (done_of HT_.out (by kernel_rfl)) ?_
  try go_wp2
  go_ret
  exact ⟨RT, BW HB⟩
 subst c16
 first | rw [if_pos rfl] at H | rw [if_pos trivial] at H
 obtain rfl := Option.some.inj H
 go_enter Try.func8, Try.ntmps8
 try go_wp2_with (first | ((with_reducible refine gate_dst (N := 2) rfl ?_); (try (refine gate_guard (by rfl) ?_; dsimp only)); refine box_event ?hg (N := 2) ?hd (cs := #[.int .i64 a0_0, .int .u32 a0_1, .int .u32 a0_2, .int .i64 a0_3, .int .i64 a0_4]) (t := 30) ?hr ?_; (case hd => rfl); (case hg => rfl); (case hr => first | (go_simp; done) | (go_simp; rfl)); intro gb660 hg w17 hbox hb; have n0_ := Aside0.mk (below_step (BW HB) hb); have n1_ := Aside0.mk (hbox); have n2_ := Aside0.mk ((by rw [hg]; exact (below_size (BW HB)) : w.heap.size ≤ gb660)); have n3_ := Aside0.mk ((by rw [hg]; exact (below_size (BW HB)) : w.heap.size ≤ gb660)); clear HB; have HB := n0_; have BK660 := n1_; have GW660 := n2_; have GE660 := n3_; clear n0_ n1_ n2_ n3_; clear hb hbox hg) | ((with_reducible refine gate_dst (N := 3) rfl ?_); (try (refine gate_guard (by rfl) ?_; dsimp only)); refine box_event ?hg (N := 3) ?hd (cs := #[.int .i64 a1_0, .int .u32 a1_1, .int .u32 a1_2, .int .i64 a1_3, .int .i64 a1_4]) (t := 30) ?hr ?_; (case hd => rfl); (case hg => rfl); (case hr => first | (go_simp; done) | (go_simp; rfl)); intro gb661 hg w18 hbox hb; have n0_ := Aside0.mk (blkB BK660 hb); have n1_ := Aside0.mk (below_step (BW HB) hb); have n2_ := Aside0.mk (hbox); have n3_ := Aside0.mk ((by rw [hg]; exact (below_size (BW HB)) : w.heap.size ≤ gb661)); have n4_ := Aside0.mk ((by rw [hg]; exact (below_size (BW HB)) : w.heap.size ≤ gb661)); have n5_ := Aside0.mk ((by rw [hg]; exact Nat.ne_of_lt (blk_lt (g := gb660) (o := .cells #[.int .i64 a0_0, .int .u32 a0_1, .int .u32 a0_2, .int .i64 a0_3, .int .i64 a0_4] 30 (0, 0)) (BD BK660)) : gb660 ≠ gb661)); have n6_ := Aside0.mk ((by rw [hg]; exact Nat.ne_of_gt (blk_lt (g := gb660) (o := .cells #[.int .i64 a0_0, .int .u32 a0_1, .int .u32 a0_2, .int .i64 a0_3, .int .i64 a0_4] 30 (0, 0)) (BD BK660)) : gb661 ≠ gb660)); clear BK660; clear HB; have BK660 := n0_; have HB := n1_; have BK661 := n2_; have GW661 := n3_; have GE661 := n4_; have NB660_661 := n5_; have NB661_660 := n6_; clear n0_ n1_ n2_ n3_ n4_ n5_ n6_; clear hb hbox hg) | ((with_reducible refine gate_callee (f := 9) rfl ?_); refine goesL_ (some 12) rfl rfl Try.func9 (by kernel_rfl) rfl #[] rfl AG ?_; (with_reducible refine (weighbridgelaw09_examples.calls  true _ A3.out).mono ?_); rintro e w19 ⟨rfl, hb⟩; (try clear A3); refine ⟨_, rfl, ?_⟩; have n0_ := Aside0.mk (blkB BK660 hb); have n1_ := Aside0.mk (blkB BK661 hb); have n2_ := Aside0.mk (below_step (BW HB) hb); clear BK660; clear BK661; clear HB; have BK660 := n0_; have BK661 := n1_; have HB := n2_; clear n0_ n1_ n2_; (try clear hb); (try clear hb2); (try clear hk); (try clear hi); have hnb20 := NB660_661.out; have hnc20 := NB661_660.out; obtain ⟨hcz21_0, hcz21_1, hcz21_2, hcz21_3, hcz21_4, hfz21_0, hfz21_1, hfz21_2, hfz21_3, hfz21_4⟩ := blk5 BK660.out) | ((with_reducible refine gate_callee (f := 16) rfl ?_); refine goesL_ (some 17) rfl rfl Try.func16 (by kernel_rfl) rfl #[.agg #[.int .i64 a0_0, .int .u32 a0_1, .int .u32 a0_2, .int .i64 a0_3, .int .i64 a0_4]] rfl AG ?_; (with_reducible refine (packet_Key.calls a0_0 a0_1 a0_2 a0_3 a0_4 t663 true _ A5.out).mono ?_); rintro e w22 ⟨rfl, hb⟩; (try clear A5); refine ⟨_, rfl, ?_⟩; have n0_ := Aside0.mk (blkB BK660 hb); have n1_ := Aside0.mk (blkB BK661 hb); have n2_ := Aside0.mk (below_step (BW HB) hb); clear BK660; clear BK661; clear HB; have BK660 := n0_; have BK661 := n1_; have HB := n2_; clear n0_ n1_ n2_; (try clear hb); (try clear hb2); (try clear hk); (try clear hi); obtain ⟨hcz23_0, hcz23_1, hcz23_2, hcz23_3, hcz23_4, hfz23_0, hfz23_1, hfz23_2, hfz23_3, hfz23_4⟩ := blk5 BK661.out) | ((with_reducible refine gate_callee (f := 16) rfl ?_); refine goesL_ (some 22) rfl rfl Try.func16 (by kernel_rfl) rfl #[.agg #[.int .i64 a1_0, .int .u32 a1_1, .int .u32 a1_2, .int .i64 a1_3, .int .i64 a1_4]] rfl AG ?_; (with_reducible refine (packet_Key.calls a1_0 a1_1 a1_2 a1_3 a1_4 t665 true _ A6.out).mono ?_); rintro e w24 ⟨rfl, hb⟩; (try clear A6); refine ⟨_, rfl, ?_⟩; have n0_ := Aside0.mk (blkB BK660 hb); have n1_ := Aside0.mk (blkB BK661 hb); have n2_ := Aside0.mk (below_step (BW HB) hb); clear BK660; clear BK661; clear HB; have BK660 := n0_; have BK661 := n1_; have HB := n2_; clear n0_ n1_ n2_; (try clear hb); (try clear hb2); (try clear hk); (try clear hi); obtain ⟨hcz25_0, hcz25_1, hcz25_2, hcz25_3, hcz25_4, hfz25_0, hfz25_1, hfz25_2, hfz25_3, hfz25_4⟩ := blk5 BK660.out) | ((with_reducible refine gate_callee (f := 18) rfl ?_); refine goesL_ (some 27) rfl rfl Try.func18 (by kernel_rfl) rfl #[.agg #[.int .i64 a0_0, .int .u32 a0_1, .int .u32 a0_2, .int .i64 a0_3, .int .i64 a0_4]] rfl AG ?_; (with_reducible refine (packet_Reverse.calls a0_0 a0_1 a0_2 a0_3 a0_4 t667 t668 t669 t670 t671 _ A7.out).mono ?_); rintro e w26 ⟨rfl, hb⟩; (try clear A7); refine ⟨_, rfl, ?_⟩; have n0_ := Aside0.mk (blkB BK660 hb); have n1_ := Aside0.mk (blkB BK661 hb); have n2_ := Aside0.mk (below_step (BW HB) hb); clear BK660; clear BK661; clear HB; have BK660 := n0_; have BK661 := n1_; have HB := n2_; clear n0_ n1_ n2_; (try clear hb); (try clear hb2); (try clear hk); (try clear hi)) | ((with_reducible refine gate_callee (f := 16) rfl ?_); refine goesL_ (some 28) rfl rfl Try.func16 (by kernel_rfl) rfl #[.agg #[.int .i64 t667, .int .u32 t668, .int .u32 t669, .int .i64 t670, .int .i64 t671]] rfl AG ?_; (with_reducible refine (packet_Key.calls t667 t668 t669 t670 t671 t672 t673 _ A8.out).mono ?_); rintro e w27 ⟨rfl, hb⟩; (try clear A8); refine ⟨_, rfl, ?_⟩; have n0_ := Aside0.mk (blkB BK660 hb); have n1_ := Aside0.mk (blkB BK661 hb); have n2_ := Aside0.mk (below_step (BW HB) hb); clear BK660; clear BK661; clear HB; have BK660 := n0_; have BK661 := n1_; have HB := n2_; clear n0_ n1_ n2_; (try clear hb); (try clear hb2); (try clear hk); (try clear hi)))
 have n0_ := Aside0.mk (blk_drew BK660.out)
 have n1_ := Aside0.mk (blk_drew BK661.out)
 have n2_ := Aside0.mk (below_drew1 HB.out)
 clear BK660
 clear BK661
 clear HB
 have BK660 := n0_
 have BK661 := n1_
 have HB := n2_
 clear n0_ n1_ n2_
 refine start_ (n := 45) (S := fun w' => w'.cell? ⟨gb660, 0, none⟩ = some (.int .i64 a0_0) ∧ w'.cell? ⟨gb660, 1, none⟩ = some (.int .u32 a0_1) ∧ w'.cell? ⟨gb660, 2, none⟩ = some (.int .u32 a0_2) ∧ w'.cell? ⟨gb660, 3, none⟩ = some (.int .i64 a0_3) ∧ w'.cell? ⟨gb660, 4, none⟩ = some (.int .i64 a0_4) ∧ w'.cell? ⟨gb661, 0, none⟩ = some (.int .i64 a1_0) ∧ w'.cell? ⟨gb661, 1, none⟩ = some (.int .u32 a1_1) ∧ w'.cell? ⟨gb661, 2, none⟩ = some (.int .u32 a1_2) ∧ w'.cell? ⟨gb661, 3, none⟩ = some (.int .i64 a1_3) ∧ w'.cell? ⟨gb661, 4, none⟩ = some (.int .i64 a1_4)) (ds := []) (bm 45 0x0) (by kernel_rfl) rfl rfl ⟨(blk_cell BK660.out 0).trans rfl, (blk_cell BK660.out 1).trans rfl, (blk_cell BK660.out 2).trans rfl, (blk_cell BK660.out 3).trans rfl, (blk_cell BK660.out 4).trans rfl, (blk_cell BK661.out 0).trans rfl, (blk_cell BK661.out 1).trans rfl, (blk_cell BK661.out 2).trans rfl, (blk_cell BK661.out 3).trans rfl, (blk_cell BK661.out 4).trans rfl⟩ (fun hHeld => ?_); refine with_tabW weighbridgelaw09_PacketBack.tab7 weighbridgelaw09_PacketBack.bits7 (fun HT_ HW_ => ?_)
 generalize w27.drew = w28 at BK660 BK661 HB hHeld ⊢
 refine pure_ (i := 0) (N := some 31) (v := ?_) (a' := ?_) (bm 45 0x1) rfl rfl (any_of HT_.out (by kernel_rfl)) (fun _ _ _ h => h) (Or.inl ⟨by rfl, ?_⟩) ?_ ?_
 rotate_left
 ·intro w'
  go_simp
  with_reducible rfl
 rotate_left
 ·simp only [Act.put, zpA, zpO, zpS, i64_w, i32_w]
  rfl
 refine pure_ (i := 1) (N := some 32) (v := ?_) (a' := ?_) (bm 45 0x3) rfl rfl (any_of HT_.out (by kernel_rfl)) (fun _ _ _ h => h) (Or.inl ⟨by rfl, ?_⟩) ?_ ?_
 rotate_left
 ·intro w'
  go_simp
  with_reducible rfl
 rotate_left
 ·simp only [Act.put, zpA, zpO, zpS, i64_w, i32_w]
  rfl
 refine take_ (i := 2) (N := some 33) (v := ?_) (a' := ?_) (bm 45 0x7) rfl rfl (take_ofW HT_.out HW_.out (by kernel_rfl)) (fun _ _ _ h => h) (Or.inl ⟨by rfl, ?_⟩) hHeld ?_ ?_
 rotate_left
 ·rintro w' ⟨s0, s1, s2, s3, s4, s5, s6, s7, s8, s9⟩
  go_simp
  with_reducible rfl
 rotate_left
 ·simp only [Act.put, zpA, zpO, zpS, i64_w, i32_w]
  rfl
 refine take_ (i := 5) (N := some 36) (v := ?_) (a' := ?_) (bm 45 0x27) rfl rfl (take_ofW HT_.out HW_.out (by kernel_rfl)) (fun _ _ _ h => h) (Or.inl ⟨by rfl, ?_⟩) hHeld ?_ ?_
 rotate_left
 ·rintro w' ⟨s0, s1, s2, s3, s4, s5, s6, s7, s8, s9⟩
  go_simp
  with_reducible rfl
 rotate_left
 ·simp only [Act.put, zpA, zpO, zpS, i64_w, i32_w]
  rfl
 refine one_ (i := 3) (N := some 34) (bm 45 0x2f) rfl rfl (one_of HT_.out (by kernel_rfl)) (by decide) (fun K hK => ?_)
 refine goes_ Try.func18 (by kernel_rfl) rfl #[.agg #[.int .i64 a0_0, .int .u32 a0_1, .int .u32 a0_2, .int .i64 a0_3, .int .i64 a0_4]] (by rfl) rfl rfl (by (try simp only [List.map_toArray, List.map_cons, List.map_nil]); first | done | rfl | (simp only [Int.toNat_natCast]; first | done | rfl) | (rw [Int.toNat_natCast, ByteArray.extract_zero_size]; rfl) | (simp only [List.length_drop, List.length_take]; rfl)) ?_
 with_reducible refine (packet_Reverse.calls a0_0 a0_1 a0_2 a0_3 a0_4 t674 t675 t676 t677 t678 _ A9.out).mono ?_
 rintro e w29 ⟨rfl, hb⟩
 refine ⟨_, rfl, ?_⟩
 have n0_ := Aside0.mk (blkB BK660 hb)
 have n1_ := Aside0.mk (blkB BK661 hb)
 have n2_ := Aside0.mk (below_step (BW HB) hb)
 clear BK660
 clear BK661
 clear HB
 have BK660 := n0_
 have BK661 := n1_
 have HB := n2_
 clear n0_ n1_ n2_
 (try clear hb)
 (try clear hb2)
 (try clear hk)
 (try clear hi)
 refine hK.out _ _ ⟨(blk_cell BK660.out 0).trans rfl, (blk_cell BK660.out 1).trans rfl, (blk_cell BK660.out 2).trans rfl, (blk_cell BK660.out 3).trans rfl, (blk_cell BK660.out 4).trans rfl, (blk_cell BK661.out 0).trans rfl, (blk_cell BK661.out 1).trans rfl, (blk_cell BK661.out 2).trans rfl, (blk_cell BK661.out 3).trans rfl, (blk_cell BK661.out 4).trans rfl⟩ (fun hHeld => ?_)
 clear hK K
 refine norm_ (a' := ?_) ?_ ?_
 rotate_left
 ·show Act.put _ (some 34) _ = _
  simp only [Act.put, zpA, zpO, zpS, i64_w, i32_w]
  rfl
 refine one_ (i := 4) (N := some 35) (bm 45 0x3f) rfl rfl (one_of HT_.out (by kernel_rfl)) (by decide) (fun K hK => ?_)
 refine goes_ Try.func18 (by kernel_rfl) rfl #[.agg #[.int .i64 t674, .int .u32 t675, .int .u32 t676, .int .i64 t677, .int .i64 t678]] (by rfl) rfl rfl (by (try simp only [List.map_toArray, List.map_cons, List.map_nil]); first | done | rfl | (simp only [Int.toNat_natCast]; first | done | rfl) | (rw [Int.toNat_natCast, ByteArray.extract_zero_size]; rfl) | (simp only [List.length_drop, List.length_take]; rfl)) ?_
 with_reducible refine (packet_Reverse.calls t674 t675 t676 t677 t678 t679 t680 t681 t682 t683 _ A10.out).mono ?_
 rintro e w30 ⟨rfl, hb⟩
 refine ⟨_, rfl, ?_⟩
 have n0_ := Aside0.mk (blkB BK660 hb)
 have n1_ := Aside0.mk (blkB BK661 hb)
 have n2_ := Aside0.mk (below_step (BW HB) hb)
 clear BK660
 clear BK661
 clear HB
 have BK660 := n0_
 have BK661 := n1_
 have HB := n2_
 clear n0_ n1_ n2_
 (try clear hb)
 (try clear hb2)
 (try clear hk)
 (try clear hi)
 refine hK.out _ _ ⟨(blk_cell BK660.out 0).trans rfl, (blk_cell BK660.out 1).trans rfl, (blk_cell BK660.out 2).trans rfl, (blk_cell BK660.out 3).trans rfl, (blk_cell BK660.out 4).trans rfl, (blk_cell BK661.out 0).trans rfl, (blk_cell BK661.out 1).trans rfl, (blk_cell BK661.out 2).trans rfl, (blk_cell BK661.out 3).trans rfl, (blk_cell BK661.out 4).trans rfl⟩ (fun hHeld => ?_)
 clear hK K
 refine norm_ (a' := ?_) ?_ ?_
 rotate_left
 ·show Act.put _ (some 35) _ = _
  simp only [Act.put, zpA, zpO, zpS, i64_w, i32_w]
  rfl
 refine pure_ (i := 6) (N := some 37) (v := ?_) (a' := ?_) (bm 45 0x7f) rfl rfl (any_of HT_.out (by kernel_rfl)) (fun _ _ _ h => h) (Or.inl ⟨by rfl, ?_⟩) ?_ ?_
 rotate_left
 ·intro w'
  go_simp
  with_reducible rfl
 rotate_left
 ·simp only [Act.put, zpA, zpO, zpS, i64_w, i32_w]
  rfl
 refine pure_ (i := 7) (N := some 38) (v := ?_) (a' := ?_) (bm 45 0xff) rfl rfl (any_of HT_.out (by kernel_rfl)) (fun _ _ _ h => h) (Or.inl ⟨by rfl, ?_⟩) ?_ ?_
 rotate_left
 ·intro w'
  go_simp
  with_reducible rfl
 rotate_left
 ·simp only [Act.put, zpA, zpO, zpS, i64_w, i32_w]
  rfl
 refine pure_ (i := 8) (N := some 39) (v := ?_) (a' := ?_) (bm 45 0x1ff) rfl rfl (any_of HT_.out (by kernel_rfl)) (fun _ _ _ h => h) (Or.inl ⟨by rfl, ?_⟩) ?_ ?_
 rotate_left
 ·intro w'
  go_simp
  with_reducible rfl
 rotate_left
 ·simp only [Act.put, zpA, zpO, zpS, i64_w, i32_w]
  rfl
 refine pure_ (i := 9) (N := some 40) (v := ?_) (a' := ?_) (bm 45 0x3ff) rfl rfl (any_of HT_.out (by kernel_rfl)) (fun _ _ _ h => h) (Or.inl ⟨by rfl, ?_⟩) ?_ ?_
 rotate_left
 ·intro w'
  go_simp
  with_reducible rfl
 rotate_left
 ·simp only [Act.put, zpA, zpO, zpS, i64_w, i32_w]
  rfl
 refine pure_ (i := 10) (N := some 41) (v := ?_) (a' := ?_) (bm 45 0x7ff) rfl rfl (any_of HT_.out (by kernel_rfl)) (fun _ _ _ h => h) (Or.inl ⟨by rfl, ?_⟩) ?_ ?_
 rotate_left
 ·intro w'
  go_simp
  with_reducible rfl
 rotate_left
 ·simp only [Act.put, zpA, zpO, zpS, i64_w, i32_w]
  rfl
 refine pure_ (i := 11) (N := some 42) (v := ?_) (a' := ?_) (bm 45 0xfff) rfl rfl (any_of HT_.out (by kernel_rfl)) (fun _ _ _ h => h) (Or.inl ⟨by rfl, ?_⟩) ?_ ?_
 rotate_left
 ·intro w'
  go_simp
  with_reducible rfl
 rotate_left
 ·simp only [Act.put, zpA, zpO, zpS, i64_w, i32_w]
  rfl
 refine pure_ (i := 12) (N := some 43) (v := ?_) (a' := ?_) (bm 45 0x1fff) rfl rfl (any_of HT_.out (by kernel_rfl)) (fun _ _ _ h => h) (Or.inl ⟨by rfl, ?_⟩) ?_ ?_
 rotate_left
 ·intro w'
  go_simp
  with_reducible rfl
 rotate_left
 ·simp only [Act.put, zpA, zpO, zpS, i64_w, i32_w]
  rfl
 refine pure_ (i := 13) (N := some 44) (v := ?_) (a' := ?_) (bm 45 0x3fff) rfl rfl (any_of HT_.out (by kernel_rfl)) (fun _ _ _ h => h) (Or.inl ⟨by rfl, ?_⟩) ?_ ?_
 rotate_left
 ·intro w'
  go_simp
  with_reducible rfl
 rotate_left
 ·simp only [Act.put, zpA, zpO, zpS, i64_w, i32_w]
  rfl
 refine pure_ (i := 14) (N := some 45) (v := ?_) (a' := ?_) (bm 45 0x7fff) rfl rfl (any_of HT_.out (by kernel_rfl)) (fun _ _ _ h => h) (Or.inl ⟨by rfl, ?_⟩) ?_ ?_
 rotate_left
 ·intro w'
  go_simp
  with_reducible rfl
 rotate_left
 ·simp only [Act.put, zpA, zpO, zpS, i64_w, i32_w]
  rfl
 refine pure_ (i := 15) (N := some 46) (v := ?_) (a' := ?_) (bm 45 0xffff) rfl rfl (any_of HT_.out (by kernel_rfl)) (fun _ _ _ h => h) (Or.inl ⟨by rfl, ?_⟩) ?_ ?_
 rotate_left
 ·intro w'
  go_simp
  with_reducible rfl
 rotate_left
 ·simp only [Act.put, zpA, zpO, zpS, i64_w, i32_w]
  rfl
 refine pure_ (i := 16) (N := some 47) (v := ?_) (a' := ?_) (bm 45 0x1ffff) rfl rfl (any_of HT_.out (by kernel_rfl)) (fun _ _ _ h => h) (Or.inl ⟨by rfl, ?_⟩) ?_ ?_
 rotate_left
 ·intro w'
  go_simp
  with_reducible rfl
 rotate_left
 ·simp only [Act.put, zpA, zpO, zpS, i64_w, i32_w]
  rfl
 refine pure_ (i := 17) (N := some 48) (v := ?_) (a' := ?_) (bm 45 0x3ffff) rfl rfl (any_of HT_.out (by kernel_rfl)) (fun _ _ _ h => h) (Or.inl ⟨by rfl, ?_⟩) ?_ ?_
 rotate_left
 ·intro w'
  go_simp
  with_reducible rfl
 rotate_left
 ·simp only [Act.put, zpA, zpO, zpS, i64_w, i32_w]
  rfl
 refine pure_ (i := 18) (N := some 49) (v := ?_) (a' := ?_) (bm 45 0x7ffff) rfl rfl (any_of HT_.out (by kernel_rfl)) (fun _ _ _ h => h) (Or.inl ⟨by rfl, ?_⟩) ?_ ?_
 rotate_left
 ·intro w'
  go_simp
  with_reducible rfl
 rotate_left
 ·simp only [Act.put, zpA, zpO, zpS, i64_w, i32_w]
  rfl
 refine pure_ (i := 19) (N := some 50) (v := ?_) (a' := ?_) (bm 45 0xfffff) rfl rfl (any_of HT_.out (by kernel_rfl)) (fun _ _ _ h => h) (Or.inl ⟨by rfl, ?_⟩) ?_ ?_
 rotate_left
 ·intro w'
  go_simp
  with_reducible rfl
 rotate_left
 ·simp only [Act.put, zpA, zpO, zpS, i64_w, i32_w]
  rfl
 refine pure_ (i := 20) (N := some 51) (v := ?_) (a' := ?_) (bm 45 0x1fffff) rfl rfl (any_of HT_.out (by kernel_rfl)) (fun _ _ _ h => h) (Or.inl ⟨by rfl, ?_⟩) ?_ ?_
 rotate_left
 ·intro w'
  go_simp
  with_reducible rfl
 rotate_left
 ·simp only [Act.put, zpA, zpO, zpS, i64_w, i32_w]
  rfl
 refine pure_ (i := 21) (N := some 52) (v := ?_) (a' := ?_) (bm 45 0x3fffff) rfl rfl (any_of HT_.out (by kernel_rfl)) (fun _ _ _ h => h) (Or.inl ⟨by rfl, ?_⟩) ?_ ?_
 rotate_left
 ·intro w'
  go_simp
  with_reducible rfl
 rotate_left
 ·simp only [Act.put, zpA, zpO, zpS, i64_w, i32_w]
  rfl
 refine pure_ (i := 22) (N := some 53) (v := ?_) (a' := ?_) (bm 45 0x7fffff) rfl rfl (any_of HT_.out (by kernel_rfl)) (fun _ _ _ h => h) (Or.inl ⟨by rfl, ?_⟩) ?_ ?_
 rotate_left
 ·intro w'
  go_simp
  with_reducible rfl
 rotate_left
 ·simp only [Act.put, zpA, zpO, zpS, i64_w, i32_w]
  rfl
 refine pure_ (i := 23) (N := some 54) (v := ?_) (a' := ?_) (bm 45 0xffffff) rfl rfl (any_of HT_.out (by kernel_rfl)) (fun _ _ _ h => h) (Or.inl ⟨by rfl, ?_⟩) ?_ ?_
 rotate_left
 ·intro w'
  go_simp
  with_reducible rfl
 rotate_left
 ·simp only [Act.put, zpA, zpO, zpS, i64_w, i32_w]
  rfl
 refine pure_ (i := 24) (N := some 55) (v := ?_) (a' := ?_) (bm 45 0x1ffffff) rfl rfl (any_of HT_.out (by kernel_rfl)) (fun _ _ _ h => h) (Or.inl ⟨by rfl, ?_⟩) ?_ ?_
 rotate_left
 ·intro w'
  go_simp
  with_reducible rfl
 rotate_left
 ·simp only [Act.put, zpA, zpO, zpS, i64_w, i32_w]
  rfl
 refine pure_ (i := 25) (N := some 56) (v := ?_) (a' := ?_) (bm 45 0x3ffffff) rfl rfl (any_of HT_.out (by kernel_rfl)) (fun _ _ _ h => h) (Or.inl ⟨by rfl, ?_⟩) ?_ ?_
 rotate_left
 ·intro w'
  go_simp
  with_reducible rfl
 rotate_left
 ·simp only [Act.put, zpA, zpO, zpS, i64_w, i32_w]
  rfl
 refine pure_ (i := 26) (N := some 57) (v := ?_) (a' := ?_) (bm 45 0x7ffffff) rfl rfl (any_of HT_.out (by kernel_rfl)) (fun _ _ _ h => h) (Or.inl ⟨by rfl, ?_⟩) ?_ ?_
 rotate_left
 ·intro w'
  go_simp
  with_reducible rfl
 rotate_left
 ·simp only [Act.put, zpA, zpO, zpS, i64_w, i32_w]
  rfl
 refine pure_ (i := 27) (N := some 58) (v := ?_) (a' := ?_) (bm 45 0xfffffff) rfl rfl (any_of HT_.out (by kernel_rfl)) (fun _ _ _ h => h) (Or.inl ⟨by rfl, ?_⟩) ?_ ?_
 rotate_left
 ·intro w'
  go_simp
  with_reducible rfl
 rotate_left
 ·simp only [Act.put, zpA, zpO, zpS, i64_w, i32_w]
  rfl
 refine pure_ (i := 28) (N := some 59) (v := ?_) (a' := ?_) (bm 45 0x1fffffff) rfl rfl (any_of HT_.out (by kernel_rfl)) (fun _ _ _ h => h) (Or.inl ⟨by rfl, ?_⟩) ?_ ?_
 rotate_left
 ·intro w'
  go_simp
  with_reducible rfl
 rotate_left
 ·simp only [Act.put, zpA, zpO, zpS, i64_w, i32_w]
  rfl
 refine pure_ (i := 29) (N := some 60) (v := ?_) (a' := ?_) (bm 45 0x3fffffff) rfl rfl (any_of HT_.out (by kernel_rfl)) (fun _ _ _ h => h) (Or.inl ⟨by rfl, ?_⟩) ?_ ?_
 rotate_left
 ·intro w'
  go_simp
  with_reducible rfl
 rotate_left
 ·simp only [Act.put, zpA, zpO, zpS, i64_w, i32_w]
  rfl
 refine pure_ (i := 30) (N := some 61) (v := ?_) (a' := ?_) (bm 45 0x7fffffff) rfl rfl (any_of HT_.out (by kernel_rfl)) (fun _ _ _ h => h) (Or.inl ⟨by rfl, ?_⟩) ?_ ?_
 rotate_left
 ·intro w'
  go_simp
  with_reducible rfl
 rotate_left
 ·simp only [Act.put, zpA, zpO, zpS, i64_w, i32_w]
  rfl
 refine pure_ (i := 31) (N := some 62) (v := ?_) (a' := ?_) (bm 45 0xffffffff) rfl rfl (any_of HT_.out (by kernel_rfl)) (fun _ _ _ h => h) (Or.inl ⟨by rfl, ?_⟩) ?_ ?_
 rotate_left
 ·intro w'
  go_simp
  with_reducible rfl
 rotate_left
 ·simp only [Act.put, zpA, zpO, zpS, i64_w, i32_w]
  rfl
 refine pure_ (i := 32) (N := some 63) (v := ?_) (a' := ?_) (bm 45 0x1ffffffff) rfl rfl (any_of HT_.out (by kernel_rfl)) (fun _ _ _ h => h) (Or.inl ⟨by rfl, ?_⟩) ?_ ?_
 rotate_left
 ·intro w'
  go_simp
  with_reducible rfl
 rotate_left
 ·simp only [Act.put, zpA, zpO, zpS, i64_w, i32_w]
  rfl
 refine pure_ (i := 33) (N := some 64) (v := ?_) (a' := ?_) (bm 45 0x3ffffffff) rfl rfl (any_of HT_.out (by kernel_rfl)) (fun _ _ _ h => h) (Or.inl ⟨by rfl, ?_⟩) ?_ ?_
 rotate_left
 ·intro w'
  go_simp
  with_reducible rfl
 rotate_left
 ·simp only [Act.put, zpA, zpO, zpS, i64_w, i32_w]
  rfl
 refine pure_ (i := 34) (N := some 65) (v := ?_) (a' := ?_) (bm 45 0x7ffffffff) rfl rfl (any_of HT_.out (by kernel_rfl)) (fun _ _ _ h => h) (Or.inl ⟨by rfl, ?_⟩) ?_ ?_
 rotate_left
 ·intro w'
  go_simp
  with_reducible rfl
 rotate_left
 ·simp only [Act.put, zpA, zpO, zpS, i64_w, i32_w]
  rfl
 refine pure_ (i := 35) (N := some 66) (v := ?_) (a' := ?_) (bm 45 0xfffffffff) rfl rfl (any_of HT_.out (by kernel_rfl)) (fun _ _ _ h => h) (Or.inl ⟨by rfl, ?_⟩) ?_ ?_
 rotate_left
 ·intro w'
  go_simp
  with_reducible rfl
 rotate_left
 ·simp only [Act.put, zpA, zpO, zpS, i64_w, i32_w]
  rfl
 refine pure_ (i := 36) (N := some 67) (v := ?_) (a' := ?_) (bm 45 0x1fffffffff) rfl rfl (any_of HT_.out (by kernel_rfl)) (fun _ _ _ h => h) (Or.inl ⟨by rfl, ?_⟩) ?_ ?_
 rotate_left
 ·intro w'
  go_simp
  with_reducible rfl
 rotate_left
 ·simp only [Act.put, zpA, zpO, zpS, i64_w, i32_w]
  rfl
 refine pure_ (i := 37) (N := some 68) (v := ?_) (a' := ?_) (bm 45 0x3fffffffff) rfl rfl (any_of HT_.out (by kernel_rfl)) (fun _ _ _ h => h) (Or.inl ⟨by rfl, ?_⟩) ?_ ?_
 rotate_left
 ·intro w'
  go_simp
  with_reducible rfl
 rotate_left
 ·simp only [Act.put, zpA, zpO, zpS, i64_w, i32_w]
  rfl
 refine take_ (i := 38) (N := some 69) (v := ?_) (a' := ?_) (bm 45 0x7fffffffff) rfl rfl (take_ofW HT_.out HW_.out (by kernel_rfl)) (fun _ _ _ h => h) (Or.inl ⟨by rfl, ?_⟩) hHeld ?_ ?_
 rotate_left
 ·rintro w' ⟨s0, s1, s2, s3, s4, s5, s6, s7, s8, s9⟩
  go_simp
  with_reducible rfl
 rotate_left
 ·simp only [Act.put, zpA, zpO, zpS, i64_w, i32_w]
  rfl
 refine take_ (i := 39) (N := some 70) (v := ?_) (a' := ?_) (bm 45 0xffffffffff) rfl rfl (take_ofW HT_.out HW_.out (by kernel_rfl)) (fun _ _ _ h => h) (Or.inl ⟨by rfl, ?_⟩) hHeld ?_ ?_
 rotate_left
 ·rintro w' ⟨s0, s1, s2, s3, s4, s5, s6, s7, s8, s9⟩
  go_simp
  with_reducible rfl
 rotate_left
 ·simp only [Act.put, zpA, zpO, zpS, i64_w, i32_w]
  rfl
 refine pure_ (i := 40) (N := some 71) (v := ?_) (a' := ?_) (bm 45 0x1ffffffffff) rfl rfl (any_of HT_.out (by kernel_rfl)) (fun _ _ _ h => h) (Or.inl ⟨by rfl, ?_⟩) ?_ ?_
 rotate_left
 ·intro w'
  go_simp
  with_reducible rfl
 rotate_left
 ·simp only [Act.put, zpA, zpO, zpS, i64_w, i32_w]
  rfl
 refine pure_ (i := 41) (N := some 72) (v := ?_) (a' := ?_) (bm 45 0x3ffffffffff) rfl rfl (any_of HT_.out (by kernel_rfl)) (fun _ _ _ h => h) (Or.inl ⟨by rfl, ?_⟩) ?_ ?_
 rotate_left
 ·intro w'
  go_simp
  with_reducible rfl
 rotate_left
 ·simp only [Act.put, zpA, zpO, zpS, i64_w, i32_w]
  rfl
 refine pure_ (i := 42) (N := some 73) (v := ?_) (a' := ?_) (bm 45 0x7ffffffffff) rfl rfl (any_of HT_.out (by kernel_rfl)) (fun _ _ _ h => h) (Or.inl ⟨by rfl, ?_⟩) ?_ ?_
 rotate_left
 ·intro w'
  go_simp
  with_reducible rfl
 rotate_left
 ·simp only [Act.put, zpA, zpO, zpS, i64_w, i32_w]
  rfl
 refine pure_ (i := 43) (N := some 74) (v := ?_) (a' := ?_) (bm 45 0xfffffffffff) rfl rfl (any_of HT_.out (by kernel_rfl)) (fun _ _ _ h => h) (Or.inl ⟨by rfl, ?_⟩) ?_ ?_
 rotate_left
 ·intro w'
  go_simp
  with_reducible rfl
 rotate_left
 ·simp only [Act.put, zpA, zpO, zpS, i64_w, i32_w]
  rfl
 refine pure_ (i := 44) (N := some 4) (v := ?_) (a' := ?_) (bm 45 0x1fffffffffff) rfl rfl (any_of HT_.out (by kernel_rfl)) (fun _ _ _ h => h) (Or.inl ⟨by rfl, ?_⟩) ?_ ?_
 rotate_left
 ·intro w'
  go_simp
  with_reducible rfl
 rotate_left
 ·simp only [Act.put, zpA, zpO, zpS, i64_w, i32_w]
  rfl
 refine done_ (done_of HT_.out (by kernel_rfl)) ?_
 try go_wp2
 go_ret
 exact ⟨RT, BW HB⟩

/-- THE ONE PURE STATEMENT of weighbridgelaw09_PacketBack: yours. -/
def weighbridgelaw09_PacketBack.Pure : Prop := ∀ (a0_0 : Int) (a0_1 : Int) (a0_2 : Int) (a0_3 : Int) (a0_4 : Int) (a1_0 : Int) (a1_1 : Int) (a1_2 : Int) (a1_3 : Int) (a1_4 : Int), (Lit.int .i64 a0_0).wf = true → (Lit.int .u32 a0_1).wf = true → (Lit.int .u32 a0_2).wf = true → (Lit.int .i64 a0_3).wf = true → (Lit.int .i64 a0_4).wf = true → (Lit.int .i64 a1_0).wf = true → (Lit.int .u32 a1_1).wf = true → (Lit.int .u32 a1_2).wf = true → (Lit.int .i64 a1_3).wf = true → (Lit.int .i64 a1_4).wf = true → weighbridgelaw09_PacketBack.f a0_0 a0_1 a0_2 a0_3 a0_4 a1_0 a1_1 a1_2 a1_3 a1_4 = some true
theorem weighbridgelaw09_PacketBack.walk (P : weighbridgelaw09_PacketBack.Pure) (a0_0 : Int) (a0_1 : Int) (a0_2 : Int) (a0_3 : Int) (a0_4 : Int) (a1_0 : Int) (a1_1 : Int) (a1_2 : Int) (a1_3 : Int) (a1_4 : Int) (w : World) (w0_0 : (Lit.int .i64 a0_0).wf = true) (w0_1 : (Lit.int .u32 a0_1).wf = true) (w0_2 : (Lit.int .u32 a0_2).wf = true) (w0_3 : (Lit.int .i64 a0_3).wf = true) (w0_4 : (Lit.int .i64 a0_4).wf = true) (w1_0 : (Lit.int .i64 a1_0).wf = true) (w1_1 : (Lit.int .u32 a1_1).wf = true) (w1_2 : (Lit.int .u32 a1_2).wf = true) (w1_3 : (Lit.int .i64 a1_3).wf = true) (w1_4 : (Lit.int .i64 a1_4).wf = true) :
  Calls Try.prog 8 #[.agg #[.int .i64 a0_0, .int .u32 a0_1, .int .u32 a0_2, .int .i64 a0_3, .int .i64 a0_4], .agg #[.int .i64 a1_0, .int .u32 a1_1, .int .u32 a1_2, .int .i64 a1_3, .int .i64 a1_4]] w fun e w' => e = .returned (.bool true) ∧ Below w.heap.size w w' := by
 have h := P a0_0 a0_1 a0_2 a0_3 a0_4 a1_0 a1_1 a1_2 a1_3 a1_4 w0_0 w0_1 w0_2 w0_3 w0_4 w1_0 w1_1 w1_2 w1_3 w1_4
 refine (weighbridgelaw09_PacketBack.calls a0_0 a0_1 a0_2 a0_3 a0_4 a1_0 a1_1 a1_2 a1_3 a1_4 true w h rfl).mono ?_
 rintro e w' ⟨rfl, hd⟩
 exact ⟨rfl, hd⟩

end Go.Proofs.Ytkganedlhcepfaa.Pr
