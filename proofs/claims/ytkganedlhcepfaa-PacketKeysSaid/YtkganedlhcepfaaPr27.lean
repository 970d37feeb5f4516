-- Written by a program of the session (wip/tools) out of the translation, over the kit's print; with pieces of the session's own.
import Derived.Test.YtkganedlhcepfaaPr0
import Derived.Test.YtkganedlhcepfaaPr1
import Derived.Test.YtkganedlhcepfaaPr9
import Derived.Test.YtkganedlhcepfaaPr18
import Derived.Test.YtkganedlhcepfaaPr22
namespace Go.Proofs.Ytkganedlhcepfaa.Pr
open Go.RowKit Go.Proofs.YtkganedlhcepfaaW.PrintWords Go.Proofs.YtkganedlhcepfaaW.PrintLast Go.Proofs.YtkganedlhcepfaaW.PrintMore
attribute [local go_sem] max2_int min2_int max_two min_two max_three min_three max_four min_four   -- for this text's walks alone
set_option linter.unusedVariables false
set_option linter.unusedSimpArgs false
open Go.Proofs.Ytkganedlhcepfaa.Sp
attribute [local go_sem high] eqA30
/-! ### weighbridgelaw09_PacketKeys: function 7 -/
def weighbridgelaw09_PacketKeys.f (k : Nat) (a0_0 : Int) (a0_1 : Int) (a0_2 : Int) (a0_3 : Int) (a0_4 : Int) : Option (Bool) := (weighbridgelaw09_examples.f).bind fun t645 => (if t645 = true then ((packet_Key.f a0_0 a0_1 a0_2 a0_3 a0_4).bind fun bt646 => ((weighbridgeref09_Key.f k a0_0 a0_1 a0_2 a0_3 a0_4).bind fun bt648 => ((packet_Reverse.f a0_0 a0_1 a0_2 a0_3 a0_4).bind fun bt650 => ((weighbridgeref09_Reverse.f a0_0 a0_1 a0_2 a0_3 a0_4).bind fun bt655 => (if (bt650.1 == bt655.1 && (bt650.2.1 == bt655.2.1 && (bt650.2.2.1 == bt655.2.2.1 && (bt650.2.2.2.1 == bt655.2.2.2.1 && (bt650.2.2.2.2 == bt655.2.2.2.2))))) = true then (if bt646.1.toList = bt648.1.toList then (some (bt646.2 == bt648.2)) else (some false)) else (some false)))))) else (some false))
theorem weighbridgelaw09_PacketKeys.mono : ∀ a0 a1 a2 a3 a4 k, LeO (weighbridgelaw09_PacketKeys.f k a0 a1 a2 a3 a4) (weighbridgelaw09_PacketKeys.f (k + 1) a0 a1 a2 a3 a4) := by
 intro a0 a1 a2 a3 a4 k
 unfold weighbridgelaw09_PacketKeys.f
 repeat' first
   | (with_reducible exact weighbridgeref09_Key.mono _ _ _ _ _ _)
   | (with_reducible exact LeO.refl _)
   | (with_reducible exact LeO.none _)
   | (with_reducible refine LeO.ite ?_ ?_)
   | (with_reducible refine LeO.bind ?_ (fun _ => ?_))
   | exact weighbridgeref09_Key.mono _ _ _ _ _ _
   | exact LeO.none _
   | refine LeO.ite ?_ ?_
   | refine LeO.bind ?_ (fun _ => ?_)
def weighbridgelaw09_PacketKeys.T6 : Bool × List (List Nat × List Nat) := (true, [([], []), ([0], [0]), ([1], [1]), ([2, 1, 1], [1, 2]), ([1], [1]), ([4, 3, 1], [1, 4]), ([3, 5, 1], [1, 3, 5]), ([1, 6], [1, 6]), ([7, 5], [7]), ([8], [8]), ([8], [8]), ([9, 10, 8], [8, 9, 10]), ([8, 11], [8, 11]), ([12, 8], [12]), ([13], [13]), ([13], [13]), ([14, 15, 13], [13, 14, 15]), ([13, 16], [13, 16]), ([17, 13, 0, 1, 2, 3, 4, 5, 6, 7, 8, 9, 10, 11, 12, 13, 14, 15, 16, 17], [17])])
def weighbridgelaw09_PacketKeys.B6 : List Nat := [0, 1, 3, 7, 3, 31, 63, 127, 255, 511, 511, 2047, 4095, 8191, 16383, 16383, 65535, 131071, 262143]
theorem weighbridgelaw09_PacketKeys.tab6 : rtab .any (opsOf Try.f7 6) = weighbridgelaw09_PacketKeys.T6 := by kernel_rfl
theorem weighbridgelaw09_PacketKeys.bits6 : waitsOk weighbridgelaw09_PacketKeys.T6.2 weighbridgelaw09_PacketKeys.B6 = true := by kernel_rfl
set_option maxHeartbeats 8000000 in
set_option maxRecDepth 100000 in
theorem weighbridgelaw09_PacketKeys.calls (k : Nat) (a0_0 : Int) (a0_1 : Int) (a0_2 : Int) (a0_3 : Int) (a0_4 : Int) (r : Bool) (w : World) (h : weighbridgelaw09_PacketKeys.f k a0_0 a0_1 a0_2 a0_3 a0_4 = some r) (hr_ : r = true) :
  Calls Try.prog 7 #[.agg #[.int .i64 a0_0, .int .u32 a0_1, .int .u32 a0_2, .int .i64 a0_3, .int .i64 a0_4]] w fun e w' => e = .returned (.bool r) ∧ Below w.heap.size w w' := by
 have hu30 := Try.underlying30
 have HB := Aside0.mk (Below.refl w.heap.size w)
 have H : ((weighbridgelaw09_examples.f).bind fun t645 => (if t645 = true then ((packet_Key.f a0_0 a0_1 a0_2 a0_3 a0_4).bind fun bt646 => ((weighbridgeref09_Key.f k a0_0 a0_1 a0_2 a0_3 a0_4).bind fun bt648 => ((packet_Reverse.f a0_0 a0_1 a0_2 a0_3 a0_4).bind fun bt650 => ((weighbridgeref09_Reverse.f a0_0 a0_1 a0_2 a0_3 a0_4).bind fun bt655 => (if (bt650.1 == bt655.1 && (bt650.2.1 == bt655.2.1 && (bt650.2.2.1 == bt655.2.2.1 && (bt650.2.2.2.1 == bt655.2.2.2.1 && (bt650.2.2.2.2 == bt655.2.2.2.2))))) = true then (if bt646.1.toList = bt648.1.toList then (some (bt646.2 == bt648.2)) else (some false)) else (some false)))))) else (some false))) = some r := h
 clear h
 replace H := Option.bind_eq_some_iff.mp H
 obtain ⟨t645, A20, H⟩ := H
 (try set_option simprocs false in dsimp only at H)
 have A2 := Aside0.mk A20
 clear A20
 by_cases c3 : t645 = true
 rotate_left
 ·replace c3 := Bool.eq_false_iff.mpr c3
  subst c3
  have H1 : (some false) = some r := by rw [if_neg (show ¬ (false = true) by decide)] at H; exact H
  clear H
  have H := H1
  clear H1
  exact absurd ((Option.some.inj H).trans hr_) (by decide)
 subst c3
 first | rw [if_pos rfl] at H | rw [if_pos trivial] at H
 replace H := Option.bind_eq_some_iff.mp H
 obtain ⟨⟨t646, t647⟩, A40, H⟩ := H
 (try set_option simprocs false in dsimp only at H)
 have A4 := Aside0.mk A40
 clear A40
 replace H := Option.bind_eq_some_iff.mp H
 obtain ⟨⟨t648, t649⟩, A50, H⟩ := H
 (try set_option simprocs false in dsimp only at H)
 have A5 := Aside0.mk A50
 clear A50
 replace H := Option.bind_eq_some_iff.mp H
 obtain ⟨⟨t650, t651, t652, t653, t654⟩, A60, H⟩ := H
 (try set_option simprocs false in dsimp only at H)
 have A6 := Aside0.mk A60
 clear A60
 replace H := Option.bind_eq_some_iff.mp H
 obtain ⟨⟨t655, t656, t657, t658, t659⟩, A70, H⟩ := H
 (try set_option simprocs false in dsimp only at H)
 have A7 := Aside0.mk A70
 clear A70
 by_cases c8 : (t650 == t655 && (t651 == t656 && (t652 == t657 && (t653 == t658 && (t654 == t659))))) = true
 rotate_left
 ·rw [if_neg c8] at H
  have c8b0 : (t650 == t655 && (t651 == t656 && (t652 == t657 && (t653 == t658 && (t654 == t659))))) = false := by simpa using c8
  (try (have c8b1 : decide (t650 = t655 && (t651 == t656 && (t652 == t657 && (t653 == t658 && (t654 == t659))))) = false := by simpa using c8))
  (try (have c8b2 : (t650 == t655 && (t651 == t656 && (t652 == t657 && (t653 == t658 && (t654 == t659))))) = false := by simpa using c8))
  (try (have c8b3 : ¬ (t650 = t655 && (t651 == t656 && (t652 == t657 && (t653 == t658 && (t654 == t659))))) := by simpa using c8))
  clear c8
  exact absurd ((Option.some.inj H).trans hr_) (by decide)
 rw [if_pos c8] at H
 have c8b0 : (t650 == t655 && (t651 == t656 && (t652 == t657 && (t653 == t658 && (t654 == t659))))) = true := c8
 (try (have c8b1 : decide (t650 = t655 && (t651 == t656 && (t652 == t657 && (t653 == t658 && (t654 == t659))))) = true := by simpa using c8))
 (try (have c8b2 : (t650 == t655 && (t651 == t656 && (t652 == t657 && (t653 == t658 && (t654 == t659))))) = true := by simpa using c8))
 clear c8
 by_cases c9 : t646.toList = t648.toList
 rotate_left
 ·rw [if_neg c9] at H
  have c9b0 : (t646.toList == t648.toList) = false := beq_eq_false_iff_ne.mpr c9
  have c9b1 : (t646.toList != t648.toList) = true := bne_iff_ne.mpr c9
  exact absurd ((Option.some.inj H).trans hr_) (by decide)
 rw [if_pos c9] at H
 have c9b0 : (t646.toList == t648.toList) = true := beq_iff_eq.mpr c9
 have c9b1 : (t646.toList != t648.toList) = false := bne_eq_false_iff_eq.mpr c9
 clear c9
 obtain rfl := Option.some.inj H
 go_enter Try.func7, Try.ntmps7
 try go_wp2_with (first | ((with_reducible refine gate_dst (N := 1) rfl ?_); refine box_event ?hg (N := 1) ?hd (cs := #[.int .i64 a0_0, .int .u32 a0_1, .int .u32 a0_2, .int .i64 a0_3, .int .i64 a0_4]) (t := 30) ?hr ?_; (case hd => rfl); (case hg => rfl); (case hr => first | (go_simp; done) | (go_simp; rfl)); intro gb644 hg w10 hbox hb; have n0_ := Aside0.mk (below_step (BW HB) hb); have n1_ := Aside0.mk (hbox); have n2_ := Aside0.mk ((by rw [hg]; exact (below_size (BW HB)) : w.heap.size ≤ gb644)); have n3_ := Aside0.mk ((by rw [hg]; exact (below_size (BW HB)) : w.heap.size ≤ gb644)); clear HB; have HB := n0_; have BK644 := n1_; have GW644 := n2_; have GE644 := n3_; clear n0_ n1_ n2_ n3_; clear hb hbox hg) | ((with_reducible refine gate_callee (f := 9) rfl ?_); refine goesL_ (some 8) rfl rfl Try.func9 (by kernel_rfl) rfl #[] rfl AG ?_; (with_reducible refine (weighbridgelaw09_examples.calls  true _ A2.out).mono ?_); rintro e w11 ⟨rfl, hb⟩; (try clear A2); refine ⟨_, rfl, ?_⟩; have n0_ := Aside0.mk (blkB BK644 hb); have n1_ := Aside0.mk (below_step (BW HB) hb); clear BK644; clear HB; have BK644 := n0_; have HB := n1_; clear n0_ n1_; (try clear hb); (try clear hb2); (try clear hk); (try clear hi); obtain ⟨hcz12_0, hcz12_1, hcz12_2, hcz12_3, hcz12_4, hfz12_0, hfz12_1, hfz12_2, hfz12_3, hfz12_4⟩ := blk5 BK644.out) | ((with_reducible refine gate_callee (f := 16) rfl ?_); refine goesL_ (some 13) rfl rfl Try.func16 (by kernel_rfl) rfl #[.agg #[.int .i64 a0_0, .int .u32 a0_1, .int .u32 a0_2, .int .i64 a0_3, .int .i64 a0_4]] rfl AG ?_; (with_reducible refine (packet_Key.calls a0_0 a0_1 a0_2 a0_3 a0_4 t646 t647 _ A4.out).mono ?_); rintro e w13 ⟨rfl, hb⟩; (try clear A4); refine ⟨_, rfl, ?_⟩; have n0_ := Aside0.mk (blkB BK644 hb); have n1_ := Aside0.mk (below_step (BW HB) hb); clear BK644; clear HB; have BK644 := n0_; have HB := n1_; clear n0_ n1_; (try clear hb); (try clear hb2); (try clear hk); (try clear hi); obtain ⟨hcz14_0, hcz14_1, hcz14_2, hcz14_3, hcz14_4, hfz14_0, hfz14_1, hfz14_2, hfz14_3, hfz14_4⟩ := blk5 BK644.out) | ((with_reducible refine gate_callee (f := 17) rfl ?_); refine goesL_ (some 18) rfl rfl Try.func17 (by kernel_rfl) rfl #[.agg #[.int .i64 a0_0, .int .u32 a0_1, .int .u32 a0_2, .int .i64 a0_3, .int .i64 a0_4]] rfl AG ?_; (with_reducible refine (weighbridgeref09_Key.calls k a0_0 a0_1 a0_2 a0_3 a0_4 t648 t649 _ A5.out).mono ?_); rintro e w15 ⟨rfl, hb⟩; (try clear A5); refine ⟨_, rfl, ?_⟩; have n0_ := Aside0.mk (blkB BK644 hb); have n1_ := Aside0.mk (below_step (BW HB) hb); clear BK644; clear HB; have BK644 := n0_; have HB := n1_; clear n0_ n1_; (try clear hb); (try clear hb2); (try clear hk); (try clear hi)))
 have n0_ := Aside0.mk (blk_drew BK644.out)
 have n1_ := Aside0.mk (below_drew1 HB.out)
 clear BK644
 clear HB
 have BK644 := n0_
 have HB := n1_
 clear n0_ n1_
 refine start_ (n := 19) (S := fun w' => w'.cell? ⟨gb644, 0, none⟩ = some (.int .i64 a0_0) ∧ w'.cell? ⟨gb644, 1, none⟩ = some (.int .u32 a0_1) ∧ w'.cell? ⟨gb644, 2, none⟩ = some (.int .u32 a0_2) ∧ w'.cell? ⟨gb644, 3, none⟩ = some (.int .i64 a0_3) ∧ w'.cell? ⟨gb644, 4, none⟩ = some (.int .i64 a0_4)) (ds := []) (bm 19 0x0) (by kernel_rfl) rfl rfl ⟨(blk_cell BK644.out 0).trans rfl, (blk_cell BK644.out 1).trans rfl, (blk_cell BK644.out 2).trans rfl, (blk_cell BK644.out 3).trans rfl, (blk_cell BK644.out 4).trans rfl⟩ (fun hHeld => ?_); refine with_tabW weighbridgelaw09_PacketKeys.tab6 weighbridgelaw09_PacketKeys.bits6 (fun HT_ HW_ => ?_)
 generalize w15.drew = w16 at BK644 HB hHeld ⊢
 refine pure_ (i := 0) (N := some 21) (v := ?_) (a' := ?_) (bm 19 0x1) rfl rfl (any_of HT_.out (by kernel_rfl)) (fun _ _ _ h => h) (Or.inl ⟨by rfl, ?_⟩) ?_ ?_
 rotate_left
 ·intro w'
  go_simp
  with_reducible rfl
 rotate_left
 ·simp only [Act.put, zpA, zpO, zpS, i64_w, i32_w]
  rfl
 refine pure_ (i := 1) (N := some 22) (v := ?_) (a' := ?_) (bm 19 0x3) rfl rfl (any_of HT_.out (by kernel_rfl)) (fun _ _ _ h => h) (Or.inl ⟨by rfl, ?_⟩) ?_ ?_
 rotate_left
 ·intro w'
  go_simp
  with_reducible rfl
 rotate_left
 ·simp only [Act.put, zpA, zpO, zpS, i64_w, i32_w]
  rfl
 refine take_ (i := 2) (N := some 23) (v := ?_) (a' := ?_) (bm 19 0x7) rfl rfl (take_ofW HT_.out HW_.out (by kernel_rfl)) (fun _ _ _ h => h) (Or.inl ⟨by rfl, ?_⟩) hHeld ?_ ?_
 rotate_left
 ·rintro w' ⟨s0, s1, s2, s3, s4⟩
  go_simp
  with_reducible rfl
 rotate_left
 ·simp only [Act.put, zpA, zpO, zpS, i64_w, i32_w]
  rfl
 refine take_ (i := 4) (N := some 25) (v := ?_) (a' := ?_) (bm 19 0x17) rfl rfl (take_ofW HT_.out HW_.out (by kernel_rfl)) (fun _ _ _ h => h) (Or.inl ⟨by rfl, ?_⟩) hHeld ?_ ?_
 rotate_left
 ·rintro w' ⟨s0, s1, s2, s3, s4⟩
  go_simp
  with_reducible rfl
 rotate_left
 ·simp only [Act.put, zpA, zpO, zpS, i64_w, i32_w]
  rfl
 refine one_ (i := 3) (N := some 24) (bm 19 0x1f) rfl rfl (one_of HT_.out (by kernel_rfl)) (by decide) (fun K hK => ?_)
 refine goes_ Try.func18 (by kernel_rfl) rfl #[.agg #[.int .i64 a0_0, .int .u32 a0_1, .int .u32 a0_2, .int .i64 a0_3, .int .i64 a0_4]] (by rfl) rfl rfl (by (try simp only [List.map_toArray, List.map_cons, List.map_nil]); first | done | rfl | (simp only [Int.toNat_natCast]; first | done | rfl) | (rw [Int.toNat_natCast, ByteArray.extract_zero_size]; rfl) | (simp only [List.length_drop, List.length_take]; rfl)) ?_
 with_reducible refine (packet_Reverse.calls a0_0 a0_1 a0_2 a0_3 a0_4 t650 t651 t652 t653 t654 _ A6.out).mono ?_
 rintro e w17 ⟨rfl, hb⟩
 refine ⟨_, rfl, ?_⟩
 have n0_ := Aside0.mk (blkB BK644 hb)
 have n1_ := Aside0.mk (below_step (BW HB) hb)
 clear BK644
 clear HB
 have BK644 := n0_
 have HB := n1_
 clear n0_ n1_
 (try clear hb)
 (try clear hb2)
 (try clear hk)
 (try clear hi)
 refine hK.out _ _ ⟨(blk_cell BK644.out 0).trans rfl, (blk_cell BK644.out 1).trans rfl, (blk_cell BK644.out 2).trans rfl, (blk_cell BK644.out 3).trans rfl, (blk_cell BK644.out 4).trans rfl⟩ (fun hHeld => ?_)
 clear hK K
 refine norm_ (a' := ?_) ?_ ?_
 rotate_left
 ·show Act.put _ (some 24) _ = _
  simp only [Act.put, zpA, zpO, zpS, i64_w, i32_w]
  rfl
 refine one_ (i := 5) (N := some 26) (bm 19 0x3f) rfl rfl (one_of HT_.out (by kernel_rfl)) (by decide) (fun K hK => ?_)
 refine goes_ Try.func19 (by kernel_rfl) rfl #[.agg #[.int .i64 a0_0, .int .u32 a0_1, .int .u32 a0_2, .int .i64 a0_3, .int .i64 a0_4]] (by rfl) rfl rfl (by (try simp only [List.map_toArray, List.map_cons, List.map_nil]); first | done | rfl | (simp only [Int.toNat_natCast]; first | done | rfl) | (rw [Int.toNat_natCast, ByteArray.extract_zero_size]; rfl) | (simp only [List.length_drop, List.length_take]; rfl)) ?_
 with_reducible refine (weighbridgeref09_Reverse.calls a0_0 a0_1 a0_2 a0_3 a0_4 t655 t656 t657 t658 t659 _ A7.out).mono ?_
 rintro e w18 ⟨rfl, hb⟩
 refine ⟨_, rfl, ?_⟩
 have n0_ := Aside0.mk (blkB BK644 hb)
 have n1_ := Aside0.mk (below_step (BW HB) hb)
 clear BK644
 clear HB
 have BK644 := n0_
 have HB := n1_
 clear n0_ n1_
 (try clear hb)
 (try clear hb2)
 (try clear hk)
 (try clear hi)
 refine hK.out _ _ ⟨(blk_cell BK644.out 0).trans rfl, (blk_cell BK644.out 1).trans rfl, (blk_cell BK644.out 2).trans rfl, (blk_cell BK644.out 3).trans rfl, (blk_cell BK644.out 4).trans rfl⟩ (fun hHeld => ?_)
 clear hK K
 refine norm_ (a' := ?_) ?_ ?_
 rotate_left
 ·show Act.put _ (some 26) _ = _
  simp only [Act.put, zpA, zpO, zpS, i64_w, i32_w]
  rfl
 refine pure_ (i := 6) (N := some 27) (v := ?_) (a' := ?_) (bm 19 0x7f) rfl rfl (any_of HT_.out (by kernel_rfl)) (fun _ _ _ h => h) (Or.inl ⟨by rfl, ?_⟩) ?_ ?_
 rotate_left
 ·intro w'
  go_simp
  with_reducible rfl
 rotate_left
 ·simp only [Act.put, zpA, zpO, zpS, i64_w, i32_w]
  rfl
 refine pure_ (i := 7) (N := some 28) (v := ?_) (a' := ?_) (bm 19 0xff) rfl rfl (any_of HT_.out (by kernel_rfl)) (fun _ _ _ h => h) (Or.inl ⟨by rfl, ?_⟩) ?_ ?_
 rotate_left
 ·intro w'
  go_simp
  with_reducible rfl
 rotate_left
 ·simp only [Act.put, zpA, zpO, zpS, i64_w, i32_w]
  rfl
 refine pure_ (i := 8) (N := some 29) (v := ?_) (a' := ?_) (bm 19 0x1ff) rfl rfl (any_of HT_.out (by kernel_rfl)) (fun _ _ _ h => h) (Or.inl ⟨by rfl, ?_⟩) ?_ ?_
 rotate_left
 ·intro w'
  go_simp
  with_reducible rfl
 rotate_left
 ·simp only [Act.put, zpA, zpO, zpS, i64_w, i32_w]
  rfl
 refine pure_ (i := 9) (N := some 30) (v := ?_) (a' := ?_) (bm 19 0x3ff) rfl rfl (any_of HT_.out (by kernel_rfl)) (fun _ _ _ h => h) (Or.inl ⟨by rfl, ?_⟩) ?_ ?_
 rotate_left
 ·intro w'
  go_simp
  with_reducible rfl
 rotate_left
 ·simp only [Act.put, zpA, zpO, zpS, i64_w, i32_w]
  rfl
 refine pure_ (i := 10) (N := some 31) (v := ?_) (a' := ?_) (bm 19 0x7ff) rfl rfl (any_of HT_.out (by kernel_rfl)) (fun _ _ _ h => h) (Or.inl ⟨by rfl, ?_⟩) ?_ ?_
 rotate_left
 ·intro w'
  go_simp
  with_reducible rfl
 rotate_left
 ·simp only [Act.put, zpA, zpO, zpS, i64_w, i32_w]
  rfl
 refine pure_ (i := 11) (N := some 32) (v := ?_) (a' := ?_) (bm 19 0xfff) rfl rfl (any_of HT_.out (by kernel_rfl)) (fun _ _ _ h => h) (Or.inl ⟨by rfl, ?_⟩) ?_ ?_
 rotate_left
 ·intro w'
  go_simp
  with_reducible rfl
 rotate_left
 ·simp only [Act.put, zpA, zpO, zpS, i64_w, i32_w]
  rfl
 refine pure_ (i := 12) (N := some 33) (v := ?_) (a' := ?_) (bm 19 0x1fff) rfl rfl (any_of HT_.out (by kernel_rfl)) (fun _ _ _ h => h) (Or.inl ⟨by rfl, ?_⟩) ?_ ?_
 rotate_left
 ·intro w'
  go_simp
  with_reducible rfl
 rotate_left
 ·simp only [Act.put, zpA, zpO, zpS, i64_w, i32_w]
  rfl
 refine pure_ (i := 13) (N := some 34) (v := ?_) (a' := ?_) (bm 19 0x3fff) rfl rfl (any_of HT_.out (by kernel_rfl)) (fun _ _ _ h => h) (Or.inl ⟨by rfl, ?_⟩) ?_ ?_
 rotate_left
 ·intro w'
  go_simp
  with_reducible rfl
 rotate_left
 ·simp only [Act.put, zpA, zpO, zpS, i64_w, i32_w]
  rfl
 refine pure_ (i := 14) (N := some 35) (v := ?_) (a' := ?_) (bm 19 0x7fff) rfl rfl (any_of HT_.out (by kernel_rfl)) (fun _ _ _ h => h) (Or.inl ⟨by rfl, ?_⟩) ?_ ?_
 rotate_left
 ·intro w'
  go_simp
  with_reducible rfl
 rotate_left
 ·simp only [Act.put, zpA, zpO, zpS, i64_w, i32_w]
  rfl
 refine pure_ (i := 15) (N := some 36) (v := ?_) (a' := ?_) (bm 19 0xffff) rfl rfl (any_of HT_.out (by kernel_rfl)) (fun _ _ _ h => h) (Or.inl ⟨by rfl, ?_⟩) ?_ ?_
 rotate_left
 ·intro w'
  go_simp
  with_reducible rfl
 rotate_left
 ·simp only [Act.put, zpA, zpO, zpS, i64_w, i32_w]
  rfl
 refine pure_ (i := 16) (N := some 37) (v := ?_) (a' := ?_) (bm 19 0x1ffff) rfl rfl (any_of HT_.out (by kernel_rfl)) (fun _ _ _ h => h) (Or.inl ⟨by rfl, ?_⟩) ?_ ?_
 rotate_left
 ·intro w'
  go_simp
  with_reducible rfl
 rotate_left
 ·simp only [Act.put, zpA, zpO, zpS, i64_w, i32_w]
  rfl
 refine pure_ (i := 17) (N := some 38) (v := ?_) (a' := ?_) (bm 19 0x3ffff) rfl rfl (any_of HT_.out (by kernel_rfl)) (fun _ _ _ h => h) (Or.inl ⟨by rfl, ?_⟩) ?_ ?_
 rotate_left
 ·intro w'
  go_simp
  with_reducible rfl
 rotate_left
 ·simp only [Act.put, zpA, zpO, zpS, i64_w, i32_w]
  rfl
 refine pure_ (i := 18) (N := some 2) (v := ?_) (a' := ?_) (bm 19 0x7ffff) rfl rfl (any_of HT_.out (by kernel_rfl)) (fun _ _ _ h => h) (Or.inl ⟨by rfl, ?_⟩) ?_ ?_
 rotate_left
 ·intro w'
  go_simp
  with_reducible rfl
 rotate_left
 ·simp only [Act.put, zpA, zpO, zpS, i64_w, i32_w]
  rfl
 refine done_ (done_of HT_.out (by kernel_rfl)) ?_
 try go_wp2
 go_ret
 exact ⟨RT, BW HB⟩

/-- THE ONE PURE STATEMENT of weighbridgelaw09_PacketKeys: yours. -/
def weighbridgelaw09_PacketKeys.Pure : Prop := ∀ (a0_0 : Int) (a0_1 : Int) (a0_2 : Int) (a0_3 : Int) (a0_4 : Int), (Lit.int .i64 a0_0).wf = true → (Lit.int .u32 a0_1).wf = true → (Lit.int .u32 a0_2).wf = true → (Lit.int .i64 a0_3).wf = true → (Lit.int .i64 a0_4).wf = true → ∃ k, weighbridgelaw09_PacketKeys.f k a0_0 a0_1 a0_2 a0_3 a0_4 = some true
theorem weighbridgelaw09_PacketKeys.walk (P : weighbridgelaw09_PacketKeys.Pure) (a0_0 : Int) (a0_1 : Int) (a0_2 : Int) (a0_3 : Int) (a0_4 : Int) (w : World) (w0_0 : (Lit.int .i64 a0_0).wf = true) (w0_1 : (Lit.int .u32 a0_1).wf = true) (w0_2 : (Lit.int .u32 a0_2).wf = true) (w0_3 : (Lit.int .i64 a0_3).wf = true) (w0_4 : (Lit.int .i64 a0_4).wf = true) :
  Calls Try.prog 7 #[.agg #[.int .i64 a0_0, .int .u32 a0_1, .int .u32 a0_2, .int .i64 a0_3, .int .i64 a0_4]] w fun e w' => e = .returned (.bool true) ∧ Below w.heap.size w w' := by
 obtain ⟨k, h⟩ := P a0_0 a0_1 a0_2 a0_3 a0_4 w0_0 w0_1 w0_2 w0_3 w0_4
 refine (weighbridgelaw09_PacketKeys.calls k a0_0 a0_1 a0_2 a0_3 a0_4 true w h rfl).mono ?_
 rintro e w' ⟨rfl, hd⟩
 exact ⟨rfl, hd⟩

end Go.Proofs.Ytkganedlhcepfaa.Pr
