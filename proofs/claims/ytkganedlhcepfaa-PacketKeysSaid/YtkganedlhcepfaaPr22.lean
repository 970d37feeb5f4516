-- Written by a program of the session (wip/tools) out of the translation, over the kit's print; with pieces of the session's own.
import Derived.Test.YtkganedlhcepfaaPr0
import Derived.Test.YtkganedlhcepfaaPr2
import Derived.Test.YtkganedlhcepfaaPr4
namespace Go.Proofs.Ytkganedlhcepfaa.Pr
open Go.RowKit Go.Proofs.YtkganedlhcepfaaW.PrintWords Go.Proofs.YtkganedlhcepfaaW.PrintLast Go.Proofs.YtkganedlhcepfaaW.PrintMore
attribute [local go_sem] max2_int min2_int max_two min_two max_three min_three max_four min_four   -- for this text's walks alone
set_option linter.unusedVariables false
set_option linter.unusedSimpArgs false
open Go.Proofs.Ytkganedlhcepfaa.Sp
/-! ### weighbridgeref09_Key: function 17 -/
def weighbridgeref09_Key.j0 : Nat → ByteArray → ByteArray → ByteArray → Bool → Int → Int → Int → Int → Int → Option (ByteArray × Bool)
 | 0, _, _, _, _, _, _, _, _, _ => none
 | k + 1, x4, x6, x8, x37, x632000, x632001, x632002, x632003, x632004 => if x37 = true then (some ((⟨#[]⟩ : ByteArray), false)) else ((weighbridgeref04_Num.f 4 (wrap64 (x632001))).bind fun t638 => (if x4.size + t638.size ≤ 9223372036854775807 then ((weighbridgeref04_Num.f 4 (wrap64 (x632002))).bind fun t639 => (if (x4 ++ t638).size + t639.size ≤ 9223372036854775807 then (if ((x4 ++ t638) ++ t639).size + x6.size ≤ 9223372036854775807 then (if (((x4 ++ t638) ++ t639) ++ x6).size + x8.size ≤ 9223372036854775807 then (some ((((x4 ++ t638) ++ t639) ++ x6) ++ x8, true)) else (none)) else (none)) else (none))) else (none)))
def weighbridgeref09_Key.f (k : Nat) (a0_0 : Int) (a0_1 : Int) (a0_2 : Int) (a0_3 : Int) (a0_4 : Int) : Option (ByteArray × Bool) := (weighbridgeref01_Put.f 1 a0_0).bind fun bt632 => ((weighbridgeref01_Put.f 2 a0_3).bind fun bt634 => ((weighbridgeref01_Put.f 2 a0_4).bind fun bt636 => (if bt632.2 = true then (if bt634.2 = true then (weighbridgeref09_Key.j0 k bt632.1 bt634.1 bt636.1 (!bt636.2) a0_0 a0_1 a0_2 a0_3 a0_4) else (weighbridgeref09_Key.j0 k bt632.1 bt634.1 bt636.1 true a0_0 a0_1 a0_2 a0_3 a0_4)) else (weighbridgeref09_Key.j0 k bt632.1 bt634.1 bt636.1 true a0_0 a0_1 a0_2 a0_3 a0_4))))
theorem weighbridgeref09_Key.mono_l : ∀ k, (∀ y0 y1 y2 y3 y4 y5 y6 y7 y8, LeO (weighbridgeref09_Key.j0 k y0 y1 y2 y3 y4 y5 y6 y7 y8) (weighbridgeref09_Key.j0 (k + 1) y0 y1 y2 y3 y4 y5 y6 y7 y8))
 | 0 => fun _ _ _ _ _ _ _ _ _ r h => by simp [weighbridgeref09_Key.j0] at h
 | k + 1 => by
  have ih0 := weighbridgeref09_Key.mono_l k
  ·intro y0 y1 y2 y3 y4 y5 y6 y7 y8
   unfold weighbridgeref09_Key.j0
   repeat' first
   | (with_reducible exact ih0 _ _ _ _ _ _ _ _ _)
   | (with_reducible exact LeO.refl _)
   | (with_reducible exact LeO.none _)
   | (with_reducible refine LeO.ite ?_ ?_)
   | (with_reducible refine LeO.bind ?_ (fun _ => ?_))
   | exact ih0 _ _ _ _ _ _ _ _ _
   | exact LeO.none _
   | refine LeO.ite ?_ ?_
   | refine LeO.bind ?_ (fun _ => ?_)
theorem weighbridgeref09_Key.mono : ∀ a0 a1 a2 a3 a4 k, LeO (weighbridgeref09_Key.f k a0 a1 a2 a3 a4) (weighbridgeref09_Key.f (k + 1) a0 a1 a2 a3 a4) := by
 intro a0 a1 a2 a3 a4 k
 have ih0 := weighbridgeref09_Key.mono_l k
 unfold weighbridgeref09_Key.f
 repeat' first
   | (with_reducible exact ih0 _ _ _ _ _ _ _ _ _)
   | (with_reducible exact LeO.refl _)
   | (with_reducible exact LeO.none _)
   | (with_reducible refine LeO.ite ?_ ?_)
   | (with_reducible refine LeO.bind ?_ (fun _ => ?_))
   | exact ih0 _ _ _ _ _ _ _ _ _
   | exact LeO.none _
   | refine LeO.ite ?_ ?_
   | refine LeO.bind ?_ (fun _ => ?_)
def weighbridgeref09_Key.T6 : Bool × List (List Nat × List Nat) := (true, [([], []), ([], []), ([1], [1]), ([2], [2]), ([3], [3]), ([0, 4], [0, 4]), ([], []), ([6], [6]), ([7], [7]), ([8, 4], [8]), ([5, 9], [5, 9]), ([], []), ([10, 11], [10, 11]), ([], []), ([12, 13], [12, 13]), ([14, 9, 0, 1, 2, 3, 4, 5, 6, 7, 8, 9, 10, 11, 12, 13, 14], [14]), ([15, 0, 1, 2, 3, 4, 5, 6, 7, 8, 9, 10, 11, 12, 13, 14, 15], [])])
def weighbridgeref09_Key.B6 : List Nat := [0, 0, 2, 6, 14, 31, 0, 64, 192, 478, 1023, 0, 4095, 0, 16383, 32767, 65535]
theorem weighbridgeref09_Key.tab6 : rtab .any (opsOf Try.f17 6) = weighbridgeref09_Key.T6 := by kernel_rfl
theorem weighbridgeref09_Key.bits6 : waitsOk weighbridgeref09_Key.T6.2 weighbridgeref09_Key.B6 = true := by kernel_rfl
set_option maxHeartbeats 8000000 in
set_option maxRecDepth 100000 in
theorem weighbridgeref09_Key.calls (k : Nat) (a0_0 : Int) (a0_1 : Int) (a0_2 : Int) (a0_3 : Int) (a0_4 : Int) (r1 : ByteArray) (r2 : Bool) (w : World) (h : weighbridgeref09_Key.f k a0_0 a0_1 a0_2 a0_3 a0_4 = some (r1, r2)) :
  Calls Try.prog 17 #[.agg #[.int .i64 a0_0, .int .u32 a0_1, .int .u32 a0_2, .int .i64 a0_3, .int .i64 a0_4]] w fun e w' => e = .returned (.tuple #[.string r1, .bool r2]) ∧ Below w.heap.size w w' := by
 have hu30 := Try.underlying30
 have HB := Aside0.mk (Below.refl w.heap.size w)
 have H : ((weighbridgeref01_Put.f 1 a0_0).bind fun bt632 => ((weighbridgeref01_Put.f 2 a0_3).bind fun bt634 => ((weighbridgeref01_Put.f 2 a0_4).bind fun bt636 => (if bt632.2 = true then (if bt634.2 = true then (weighbridgeref09_Key.j0 k bt632.1 bt634.1 bt636.1 (!bt636.2) a0_0 a0_1 a0_2 a0_3 a0_4) else (weighbridgeref09_Key.j0 k bt632.1 bt634.1 bt636.1 true a0_0 a0_1 a0_2 a0_3 a0_4)) else (weighbridgeref09_Key.j0 k bt632.1 bt634.1 bt636.1 true a0_0 a0_1 a0_2 a0_3 a0_4))))) = some (r1, r2) := h
 clear h
 replace H := Option.bind_eq_some_iff.mp H
 obtain ⟨⟨t632, t633⟩, A20, H⟩ := H
 (try set_option simprocs false in dsimp only at H)
 have A2 := Aside0.mk A20
 clear A20
 replace H := Option.bind_eq_some_iff.mp H
 obtain ⟨⟨t634, t635⟩, A30, H⟩ := H
 (try set_option simprocs false in dsimp only at H)
 have A3 := Aside0.mk A30
 clear A30
 replace H := Option.bind_eq_some_iff.mp H
 obtain ⟨⟨t636, t637⟩, A40, H⟩ := H
 (try set_option simprocs false in dsimp only at H)
 have A4 := Aside0.mk A40
 clear A40
 have HC5 := Aside0.mk H
 clear H
 go_enter Try.func17, Try.ntmps17
 go_upto_region 4 with (first | ((with_reducible refine gate_dst (N := 1) rfl ?_); refine box_event ?hg (N := 1) ?hd (cs := #[.int .i64 a0_0, .int .u32 a0_1, .int .u32 a0_2, .int .i64 a0_3, .int .i64 a0_4]) (t := 30) ?hr ?_; (case hd => rfl); (case hg => rfl); (case hr => first | (go_simp; done) | (go_simp; rfl)); intro gb631 hg w6 hbox hb; have n0_ := Aside0.mk (below_step (BW HB) hb); have n1_ := Aside0.mk (hbox); have n2_ := Aside0.mk ((by rw [hg]; exact (below_size (BW HB)) : w.heap.size ≤ gb631)); have n3_ := Aside0.mk ((by rw [hg]; exact (below_size (BW HB)) : w.heap.size ≤ gb631)); clear HB; have HB := n0_; have BK631 := n1_; have GW631 := n2_; have GE631 := n3_; clear n0_ n1_ n2_ n3_; clear hb hbox hg; obtain ⟨hcz7_0, hcz7_1, hcz7_2, hcz7_3, hcz7_4, hfz7_0, hfz7_1, hfz7_2, hfz7_3, hfz7_4⟩ := blk5 BK631.out) | ((with_reducible refine gate_callee (f := 37) rfl ?_); refine goesL_ (some 13) rfl rfl Try.func37 (by kernel_rfl) rfl #[.int .i64 1, .int .i64 a0_0] rfl AG ?_; (with_reducible refine (weighbridgeref01_Put.calls 1 a0_0 t632 t633 _ A2.out).mono ?_); rintro e w8 ⟨rfl, hb⟩; refine ⟨_, rfl, ?_⟩; have n0_ := Aside0.mk (blkB BK631 hb); have n1_ := Aside0.mk (below_step (BW HB) hb); clear BK631; clear HB; have BK631 := n0_; have HB := n1_; clear n0_ n1_; (try clear hb); (try clear hb2); (try clear hk); (try clear hi); obtain ⟨hcz9_0, hcz9_1, hcz9_2, hcz9_3, hcz9_4, hfz9_0, hfz9_1, hfz9_2, hfz9_3, hfz9_4⟩ := blk5 BK631.out) | ((with_reducible refine gate_callee (f := 37) rfl ?_); refine goesL_ (some 19) rfl rfl Try.func37 (by kernel_rfl) rfl #[.int .i64 2, .int .i64 a0_3] rfl AG ?_; (with_reducible refine (weighbridgeref01_Put.calls 2 a0_3 t634 t635 _ A3.out).mono ?_); rintro e w10 ⟨rfl, hb⟩; refine ⟨_, rfl, ?_⟩; have n0_ := Aside0.mk (blkB BK631 hb); have n1_ := Aside0.mk (below_step (BW HB) hb); clear BK631; clear HB; have BK631 := n0_; have HB := n1_; clear n0_ n1_; (try clear hb); (try clear hb2); (try clear hk); (try clear hi); obtain ⟨hcz11_0, hcz11_1, hcz11_2, hcz11_3, hcz11_4, hfz11_0, hfz11_1, hfz11_2, hfz11_3, hfz11_4⟩ := blk5 BK631.out) | ((with_reducible refine gate_callee (f := 37) rfl ?_); refine goesL_ (some 25) rfl rfl Try.func37 (by kernel_rfl) rfl #[.int .i64 2, .int .i64 a0_4] rfl AG ?_; (with_reducible refine (weighbridgeref01_Put.calls 2 a0_4 t636 t637 _ A4.out).mono ?_); rintro e w12 ⟨rfl, hb⟩; refine ⟨_, rfl, ?_⟩; have n0_ := Aside0.mk (blkB BK631 hb); have n1_ := Aside0.mk (below_step (BW HB) hb); clear BK631; clear HB; have BK631 := n0_; have HB := n1_; clear n0_ n1_; (try clear hb); (try clear hb2); (try clear hk); (try clear hi)))
 (try simp only [Act.put, List.setIfInBounds_toArray, List.set_cons_zero, List.set_cons_succ])
 go_cut [37] (fun v37 wc => ∃ (kq : Nat) (x37_4 : Bool), v37 = .bool x37_4 ∧ Aside0 (weighbridgeref09_Key.j0 kq t632 t634 t636 x37_4 a0_0 a0_1 a0_2 a0_3 a0_4 = some (r1, r2)) ∧ Aside0 (kq ≤ k) ∧ Aside0 (wc.heap[gb631]? = some (.cells #[.int .i64 a0_0, .int .u32 a0_1, .int .u32 a0_2, .int .i64 a0_3, .int .i64 a0_4] 30 (0, 0))) ∧ Aside0 (Below w.heap.size w wc))
 case first =>
  have H := HC5.out
  clear HC5
  by_cases c13 : t633 = true
  ·subst c13
   first | rw [if_pos rfl] at H | rw [if_pos trivial] at H
   by_cases c14 : t635 = true
   ·subst c14
    first | rw [if_pos rfl] at H | rw [if_pos trivial] at H
    have H' := Aside0.mk H
    clear H
    go_wp2
    go_meet
    case rel => exact ⟨_, (!t637), (by first | rfl | (simp; done) | (congr 2; simp only [ByteArray.size_extract, ByteArray.size_append]; (try unfold wrap64); omega) | (simp only [ByteArray.size_extract, ByteArray.size_append, Nat.sub_zero]; done) | (congr 1; simp only [ByteArray.size_extract, ByteArray.size_append, Nat.sub_zero]; omega) | (simp [*]; done)), H', ⟨by first | omega | exact Nat.le_refl _⟩, ⟨by (with_reducible repeat (first | refine blk_drewN ?_ _ | refine blk_drew ?_ | refine blk_alloc ?_ _)); exact BK631.out⟩, ⟨BW HB⟩⟩
   ·replace c14 := Bool.eq_false_iff.mpr c14
    subst c14
    have H1 : (weighbridgeref09_Key.j0 k t632 t634 t636 true a0_0 a0_1 a0_2 a0_3 a0_4) = some (r1, r2) := by rw [if_neg (show ¬ (false = true) by decide)] at H; exact H
    clear H
    have H := H1
    clear H1
    have H' := Aside0.mk H
    clear H
    go_wp2
    go_meet
    case rel => exact ⟨_, (true), (by first | rfl | (simp; done) | (congr 2; simp only [ByteArray.size_extract, ByteArray.size_append]; (try unfold wrap64); omega) | (simp only [ByteArray.size_extract, ByteArray.size_append, Nat.sub_zero]; done) | (congr 1; simp only [ByteArray.size_extract, ByteArray.size_append, Nat.sub_zero]; omega) | (simp [*]; done)), H', ⟨by first | omega | exact Nat.le_refl _⟩, ⟨by (with_reducible repeat (first | refine blk_drewN ?_ _ | refine blk_drew ?_ | refine blk_alloc ?_ _)); exact BK631.out⟩, ⟨BW HB⟩⟩
  ·replace c13 := Bool.eq_false_iff.mpr c13
   subst c13
   have H1 : (weighbridgeref09_Key.j0 k t632 t634 t636 true a0_0 a0_1 a0_2 a0_3 a0_4) = some (r1, r2) := by rw [if_neg (show ¬ (false = true) by decide)] at H; exact H
   clear H
   have H := H1
   clear H1
   have H' := Aside0.mk H
   clear H
   go_wp2
   go_meet
   case rel => exact ⟨_, (true), (by first | rfl | (simp; done) | (congr 2; simp only [ByteArray.size_extract, ByteArray.size_append]; (try unfold wrap64); omega) | (simp only [ByteArray.size_extract, ByteArray.size_append, Nat.sub_zero]; done) | (congr 1; simp only [ByteArray.size_extract, ByteArray.size_append, Nat.sub_zero]; omega) | (simp [*]; done)), H', ⟨by first | omega | exact Nat.le_refl _⟩, ⟨by (with_reducible repeat (first | refine blk_drewN ?_ _ | refine blk_drew ?_ | refine blk_alloc ?_ _)); exact BK631.out⟩, ⟨BW HB⟩⟩
 case rest =>
  clear HC5
  try clear c1
  try clear p2
  try clear c3
  try clear c13
  try clear c14
  try clear hcz11_0
  try clear hcz11_1
  try clear hcz11_2
  try clear hcz11_3
  try clear hcz11_4
  try clear hcz7_0
  try clear hcz7_1
  try clear hcz7_2
  try clear hcz7_3
  try clear hcz7_4
  try clear hcz9_0
  try clear hcz9_1
  try clear hcz9_2
  try clear hcz9_3
  try clear hcz9_4
  try clear hfz11_0
  try clear hfz11_1
  try clear hfz11_2
  try clear hfz11_3
  try clear hfz11_4
  try clear hfz7_0
  try clear hfz7_1
  try clear hfz7_2
  try clear hfz7_3
  try clear hfz7_4
  try clear hfz9_0
  try clear hfz9_1
  try clear hfz9_2
  try clear hfz9_3
  try clear hfz9_4
  obtain ⟨kq, x37_4, rfl, HA, HJ4, BK631, HB⟩ := hcut
  cases kq with
  | zero => exact absurd HA.out (by simp [weighbridgeref09_Key.j0])
  | succ kj4 =>
   have H := HA.out
   clear HA
   simp only [weighbridgeref09_Key.j0] at H
   by_cases c15 : x37_4 = true
   ·subst c15
    first | rw [if_pos rfl] at H | rw [if_pos trivial] at H
    simp only [Option.some.injEq, Prod.mk.injEq] at H
    obtain ⟨rfl, rfl⟩ := H
    go_wp2
    go_ret2
    exact ⟨RT, BW HB⟩
   ·replace c15 := Bool.eq_false_iff.mpr c15
    subst c15
    have H1 : ((weighbridgeref04_Num.f 4 (wrap64 (a0_1))).bind fun t638 => (if t632.size + t638.size ≤ 9223372036854775807 then ((weighbridgeref04_Num.f 4 (wrap64 (a0_2))).bind fun t639 => (if (t632 ++ t638).size + t639.size ≤ 9223372036854775807 then (if ((t632 ++ t638) ++ t639).size + t634.size ≤ 9223372036854775807 then (if (((t632 ++ t638) ++ t639) ++ t634).size + t636.size ≤ 9223372036854775807 then (some ((((t632 ++ t638) ++ t639) ++ t634) ++ t636, true)) else (none)) else (none)) else (none))) else (none))) = some (r1, r2) := by rw [if_neg (show ¬ (false = true) by decide)] at H; exact H
    clear H
    have H := H1
    clear H1
    replace H := Option.bind_eq_some_iff.mp H
    obtain ⟨t638, A160, H⟩ := H
    (try set_option simprocs false in dsimp only at H)
    have A16 := Aside0.mk A160
    clear A160
    by_cases c17 : t632.size + t638.size ≤ 9223372036854775807
    ·rw [if_pos c17] at H
     have c17b0 := eq_true c17
     have c17b1 : decide (t632.size + t638.size ≤ 9223372036854775807) = true := decide_eq_true c17
     try have c17b2 : (9223372036854775807 < t632.size + t638.size) = False := eq_false (Nat.not_lt.2 c17)
     replace H := Option.bind_eq_some_iff.mp H
     obtain ⟨t639, A180, H⟩ := H
     (try set_option simprocs false in dsimp only at H)
     have A18 := Aside0.mk A180
     clear A180
     by_cases c19 : (t632 ++ t638).size + t639.size ≤ 9223372036854775807
     ·rw [if_pos c19] at H
      have c19b0 := eq_true c19
      have c19b1 : decide ((t632 ++ t638).size + t639.size ≤ 9223372036854775807) = true := decide_eq_true c19
      try have c19b2 : (9223372036854775807 < (t632 ++ t638).size + t639.size) = False := eq_false (Nat.not_lt.2 c19)
      (try (have c19r := c19; (repeat rw [ByteArray.size_append] at c19r); (repeat rw [ByteArray.size_extract] at c19r); (repeat rw [Nat.sub_zero] at c19r); (repeat rw [Nat.min_self] at c19r); have c19rt := eq_true c19r; have c19ru := eq_false (Nat.not_lt.mpr c19r); clear c19r))
      (try (have c19s := c19; simp [c17b0] at c19s; have c19t := eq_true c19s; have c19u := eq_false (Nat.not_lt.mpr c19s); clear c19s))
      by_cases c20 : ((t632 ++ t638) ++ t639).size + t634.size ≤ 9223372036854775807
      ·rw [if_pos c20] at H
       have c20b0 := eq_true c20
       have c20b1 : decide (((t632 ++ t638) ++ t639).size + t634.size ≤ 9223372036854775807) = true := decide_eq_true c20
       try have c20b2 : (9223372036854775807 < ((t632 ++ t638) ++ t639).size + t634.size) = False := eq_false (Nat.not_lt.2 c20)
       (try (have c20r := c20; (repeat rw [ByteArray.size_append] at c20r); (repeat rw [ByteArray.size_extract] at c20r); (repeat rw [Nat.sub_zero] at c20r); (repeat rw [Nat.min_self] at c20r); have c20rt := eq_true c20r; have c20ru := eq_false (Nat.not_lt.mpr c20r); clear c20r))
       (try (have c20s := c20; simp [c17b0, c19b0] at c20s; have c20t := eq_true c20s; have c20u := eq_false (Nat.not_lt.mpr c20s); clear c20s))
       by_cases c21 : (((t632 ++ t638) ++ t639) ++ t634).size + t636.size ≤ 9223372036854775807
       ·rw [if_pos c21] at H
        have c21b0 := eq_true c21
        have c21b1 : decide ((((t632 ++ t638) ++ t639) ++ t634).size + t636.size ≤ 9223372036854775807) = true := decide_eq_true c21
        try have c21b2 : (9223372036854775807 < (((t632 ++ t638) ++ t639) ++ t634).size + t636.size) = False := eq_false (Nat.not_lt.2 c21)
        (try (have c21r := c21; (repeat rw [ByteArray.size_append] at c21r); (repeat rw [ByteArray.size_extract] at c21r); (repeat rw [Nat.sub_zero] at c21r); (repeat rw [Nat.min_self] at c21r); have c21rt := eq_true c21r; have c21ru := eq_false (Nat.not_lt.mpr c21r); clear c21r))
        (try (have c21s := c21; simp [c17b0, c19b0, c20b0] at c21s; have c21t := eq_true c21s; have c21u := eq_false (Nat.not_lt.mpr c21s); clear c21s))
        simp only [Option.some.injEq, Prod.mk.injEq] at H
        obtain ⟨rfl, rfl⟩ := H
        try go_wp2
        have n0_ := Aside0.mk (blk_drew BK631.out)
        have n1_ := Aside0.mk (below_drew1 HB.out)
        clear BK631
        clear HB
        have BK631 := n0_
        have HB := n1_
        clear n0_ n1_
        refine start_ (n := 17) (S := fun w' => w'.cell? ⟨gb631, 0, none⟩ = some (.int .i64 a0_0) ∧ w'.cell? ⟨gb631, 1, none⟩ = some (.int .u32 a0_1) ∧ w'.cell? ⟨gb631, 2, none⟩ = some (.int .u32 a0_2) ∧ w'.cell? ⟨gb631, 3, none⟩ = some (.int .i64 a0_3) ∧ w'.cell? ⟨gb631, 4, none⟩ = some (.int .i64 a0_4)) (ds := []) (bm 17 0x0) (by kernel_rfl) rfl rfl ⟨(blk_cell BK631.out 0).trans rfl, (blk_cell BK631.out 1).trans rfl, (blk_cell BK631.out 2).trans rfl, (blk_cell BK631.out 3).trans rfl, (blk_cell BK631.out 4).trans rfl⟩ (fun hHeld => ?_); refine with_tabW weighbridgeref09_Key.tab6 weighbridgeref09_Key.bits6 (fun HT_ HW_ => ?_)
        generalize wc.drew = w22 at BK631 HB hHeld ⊢
        refine pure_ (i := 0) (N := some 38) (v := ?_) (a' := ?_) (bm 17 0x1) rfl rfl (any_of HT_.out (by kernel_rfl)) (fun _ _ _ h => h) (Or.inl ⟨by rfl, ?_⟩) ?_ ?_
        rotate_left
        ·intro w'
         go_simp
         with_reducible rfl
        rotate_left
        ·simp only [Act.put, zpA, zpO, zpS, i64_w, i32_w]
         rfl
        refine pure_ (i := 1) (N := some 39) (v := ?_) (a' := ?_) (bm 17 0x3) rfl rfl (any_of HT_.out (by kernel_rfl)) (fun _ _ _ h => h) (Or.inl ⟨by rfl, ?_⟩) ?_ ?_
        rotate_left
        ·intro w'
         go_simp
         with_reducible rfl
        rotate_left
        ·simp only [Act.put, zpA, zpO, zpS, i64_w, i32_w]
         rfl
        refine pure_ (i := 6) (N := some 44) (v := ?_) (a' := ?_) (bm 17 0x43) rfl rfl (any_of HT_.out (by kernel_rfl)) (fun _ _ _ h => h) (Or.inl ⟨by rfl, ?_⟩) ?_ ?_
        rotate_left
        ·intro w'
         go_simp
         with_reducible rfl
        rotate_left
        ·simp only [Act.put, zpA, zpO, zpS, i64_w, i32_w]
         rfl
        refine pure_ (i := 11) (N := some 49) (v := ?_) (a' := ?_) (bm 17 0x843) rfl rfl (any_of HT_.out (by kernel_rfl)) (fun _ _ _ h => h) (Or.inl ⟨by rfl, ?_⟩) ?_ ?_
        rotate_left
        ·intro w'
         go_simp
         with_reducible rfl
        rotate_left
        ·simp only [Act.put, zpA, zpO, zpS, i64_w, i32_w]
         rfl
        refine pure_ (i := 13) (N := some 51) (v := ?_) (a' := ?_) (bm 17 0x2843) rfl rfl (any_of HT_.out (by kernel_rfl)) (fun _ _ _ h => h) (Or.inl ⟨by rfl, ?_⟩) ?_ ?_
        rotate_left
        ·intro w'
         go_simp
         with_reducible rfl
        rotate_left
        ·simp only [Act.put, zpA, zpO, zpS, i64_w, i32_w]
         rfl
        refine take_ (i := 2) (N := some 40) (v := ?_) (a' := ?_) (bm 17 0x2847) rfl rfl (take_ofW HT_.out HW_.out (by kernel_rfl)) (fun _ _ _ h => h) (Or.inl ⟨by rfl, ?_⟩) hHeld ?_ ?_
        rotate_left
        ·rintro w' ⟨s0, s1, s2, s3, s4⟩
         go_simp
         with_reducible rfl
        rotate_left
        ·simp only [Act.put, zpA, zpO, zpS, i64_w, i32_w]
         rfl
        refine pure_ (i := 3) (N := some 41) (v := ?_) (a' := ?_) (bm 17 0x284f) rfl rfl (any_of HT_.out (by kernel_rfl)) (fun _ _ _ h => h) (Or.inl ⟨by rfl, ?_⟩) ?_ ?_
        rotate_left
        ·intro w'
         go_simp
         with_reducible rfl
        rotate_left
        ·simp only [Act.put, zpA, zpO, zpS, i64_w, i32_w]
         rfl
        refine take_ (i := 7) (N := some 45) (v := ?_) (a' := ?_) (bm 17 0x28cf) rfl rfl (take_ofW HT_.out HW_.out (by kernel_rfl)) (fun _ _ _ h => h) (Or.inl ⟨by rfl, ?_⟩) hHeld ?_ ?_
        rotate_left
        ·rintro w' ⟨s0, s1, s2, s3, s4⟩
         go_simp
         with_reducible rfl
        rotate_left
        ·simp only [Act.put, zpA, zpO, zpS, i64_w, i32_w]
         rfl
        refine pure_ (i := 8) (N := some 46) (v := ?_) (a' := ?_) (bm 17 0x29cf) rfl rfl (any_of HT_.out (by kernel_rfl)) (fun _ _ _ h => h) (Or.inl ⟨by rfl, ?_⟩) ?_ ?_
        rotate_left
        ·intro w'
         go_simp
         with_reducible rfl
        rotate_left
        ·simp only [Act.put, zpA, zpO, zpS, i64_w, i32_w]
         rfl
        refine one_ (i := 4) (N := some 42) (bm 17 0x29df) rfl rfl (one_of HT_.out (by kernel_rfl)) (by decide) (fun K hK => ?_)
        refine goes_ Try.func34 (by kernel_rfl) rfl #[.int .i64 4, .int .i64 (wrap64 (a0_1))] (by rfl) rfl rfl (by (try simp only [List.map_toArray, List.map_cons, List.map_nil]); first | done | rfl | (simp only [Int.toNat_natCast]; first | done | rfl) | (rw [Int.toNat_natCast, ByteArray.extract_zero_size]; rfl) | (simp only [List.length_drop, List.length_take]; rfl)) ?_
        with_reducible refine (weighbridgeref04_Num.calls 4 (wrap64 (a0_1)) t638 _ A16.out).mono ?_
        rintro e w23 ⟨rfl, hb⟩
        refine ⟨_, rfl, ?_⟩
        have n0_ := Aside0.mk (blkB BK631 hb)
        have n1_ := Aside0.mk (below_step (BW HB) hb)
        clear BK631
        clear HB
        have BK631 := n0_
        have HB := n1_
        clear n0_ n1_
        (try clear hb)
        (try clear hb2)
        (try clear hk)
        (try clear hi)
        refine hK.out _ _ ⟨(blk_cell BK631.out 0).trans rfl, (blk_cell BK631.out 1).trans rfl, (blk_cell BK631.out 2).trans rfl, (blk_cell BK631.out 3).trans rfl, (blk_cell BK631.out 4).trans rfl⟩ (fun hHeld => ?_)
        clear hK K
        refine norm_ (a' := ?_) ?_ ?_
        rotate_left
        ·show Act.put _ (some 42) _ = _
         simp only [Act.put, zpA, zpO, zpS, i64_w, i32_w]
         rfl
        refine pure_ (i := 5) (N := some 43) (v := ?_) (a' := ?_) (bm 17 0x29ff) rfl rfl (any_of HT_.out (by kernel_rfl)) (fun _ _ _ h => h) (Or.inl ⟨by rfl, ?_⟩) ?_ ?_
        rotate_left
        ·intro w'
         go_simp
         with_reducible rfl
        rotate_left
        ·simp only [Act.put, zpA, zpO, zpS, i64_w, i32_w]
         rfl
        refine one_ (i := 9) (N := some 47) (bm 17 0x2bff) rfl rfl (one_of HT_.out (by kernel_rfl)) (by decide) (fun K hK => ?_)
        refine goes_ Try.func34 (by kernel_rfl) rfl #[.int .i64 4, .int .i64 (wrap64 (a0_2))] (by rfl) rfl rfl (by (try simp only [List.map_toArray, List.map_cons, List.map_nil]); first | done | rfl | (simp only [Int.toNat_natCast]; first | done | rfl) | (rw [Int.toNat_natCast, ByteArray.extract_zero_size]; rfl) | (simp only [List.length_drop, List.length_take]; rfl)) ?_
        with_reducible refine (weighbridgeref04_Num.calls 4 (wrap64 (a0_2)) t639 _ A18.out).mono ?_
        rintro e w24 ⟨rfl, hb⟩
        refine ⟨_, rfl, ?_⟩
        have n0_ := Aside0.mk (blkB BK631 hb)
        have n1_ := Aside0.mk (below_step (BW HB) hb)
        clear BK631
        clear HB
        have BK631 := n0_
        have HB := n1_
        clear n0_ n1_
        (try clear hb)
        (try clear hb2)
        (try clear hk)
        (try clear hi)
        refine hK.out _ _ ⟨(blk_cell BK631.out 0).trans rfl, (blk_cell BK631.out 1).trans rfl, (blk_cell BK631.out 2).trans rfl, (blk_cell BK631.out 3).trans rfl, (blk_cell BK631.out 4).trans rfl⟩ (fun hHeld => ?_)
        clear hK K
        refine norm_ (a' := ?_) ?_ ?_
        rotate_left
        ·show Act.put _ (some 47) _ = _
         simp only [Act.put, zpA, zpO, zpS, i64_w, i32_w]
         rfl
        refine pure_ (i := 10) (N := some 48) (v := ?_) (a' := ?_) (bm 17 0x2fff) rfl rfl (any_of HT_.out (by kernel_rfl)) (fun _ _ _ h => h) (Or.inl ⟨by rfl, ?_⟩) ?_ ?_
        rotate_left
        ·intro w'
         go_simp
         with_reducible rfl
        rotate_left
        ·simp only [Act.put, zpA, zpO, zpS, i64_w, i32_w]
         rfl
        refine pure_ (i := 12) (N := some 50) (v := ?_) (a' := ?_) (bm 17 0x3fff) rfl rfl (any_of HT_.out (by kernel_rfl)) (fun _ _ _ h => h) (Or.inl ⟨by rfl, ?_⟩) ?_ ?_
        rotate_left
        ·intro w'
         go_simp
         with_reducible rfl
        rotate_left
        ·simp only [Act.put, zpA, zpO, zpS, i64_w, i32_w]
         rfl
        refine pure_ (i := 14) (N := some 52) (v := ?_) (a' := ?_) (bm 17 0x7fff) rfl rfl (any_of HT_.out (by kernel_rfl)) (fun _ _ _ h => h) (Or.inl ⟨by rfl, ?_⟩) ?_ ?_
        rotate_left
        ·intro w'
         go_simp
         with_reducible rfl
        rotate_left
        ·simp only [Act.put, zpA, zpO, zpS, i64_w, i32_w]
         rfl
        refine pure_ (i := 15) (N := some 2) (v := ?_) (a' := ?_) (bm 17 0xffff) rfl rfl (any_of HT_.out (by kernel_rfl)) (fun _ _ _ h => h) (Or.inl ⟨by rfl, ?_⟩) ?_ ?_
        rotate_left
        ·intro w'
         go_simp
         with_reducible rfl
        rotate_left
        ·simp only [Act.put, zpA, zpO, zpS, i64_w, i32_w]
         rfl
        refine pure_ (i := 16) (N := some 3) (v := ?_) (a' := ?_) (bm 17 0x1ffff) rfl rfl (any_of HT_.out (by kernel_rfl)) (fun _ _ _ h => h) (Or.inl ⟨by rfl, ?_⟩) ?_ ?_
        rotate_left
        ·intro w'
         go_simp
         with_reducible rfl
        rotate_left
        ·simp only [Act.put, zpA, zpO, zpS, i64_w, i32_w]
         rfl
        refine done_ (done_of HT_.out (by kernel_rfl)) ?_
        try go_wp2
        go_ret2
        exact ⟨RT, BW HB⟩
       ·rw [if_neg c21] at H
        exact absurd H (by simp)
      ·rw [if_neg c20] at H
       exact absurd H (by simp)
     ·rw [if_neg c19] at H
      exact absurd H (by simp)
    ·rw [if_neg c17] at H
     exact absurd H (by simp)

/-! ### weighbridgeref09_Reverse: function 19 -/
def weighbridgeref09_Reverse.f (a0_0 : Int) (a0_1 : Int) (a0_2 : Int) (a0_3 : Int) (a0_4 : Int) : Option (Int × Int × Int × Int × Int) := some (a0_0, a0_2, a0_1, a0_4, a0_3)
set_option maxHeartbeats 8000000 in
set_option maxRecDepth 100000 in
theorem weighbridgeref09_Reverse.calls (a0_0 : Int) (a0_1 : Int) (a0_2 : Int) (a0_3 : Int) (a0_4 : Int) (r1 : Int) (r2 : Int) (r3 : Int) (r4 : Int) (r5 : Int) (w : World) (h : weighbridgeref09_Reverse.f a0_0 a0_1 a0_2 a0_3 a0_4 = some (r1, r2, r3, r4, r5)) :
  Calls Try.prog 19 #[.agg #[.int .i64 a0_0, .int .u32 a0_1, .int .u32 a0_2, .int .i64 a0_3, .int .i64 a0_4]] w fun e w' => e = .returned (.agg #[.int .i64 r1, .int .u32 r2, .int .u32 r3, .int .i64 r4, .int .i64 r5]) ∧ Below w.heap.size w w' := by
 have hu30 := Try.underlying30
 have HB := Aside0.mk (Below.refl w.heap.size w)
 have H : (some (a0_0, a0_2, a0_1, a0_4, a0_3)) = some (r1, r2, r3, r4, r5) := h
 clear h
 simp only [Option.some.injEq, Prod.mk.injEq] at H
 obtain ⟨rfl, rfl, rfl, rfl, rfl⟩ := H
 go_enter Try.func19, Try.ntmps19
 go_wp2_with (first | ((with_reducible refine gate_dst (N := 1) rfl ?_); refine box_event ?hg (N := 1) ?hd (cs := #[.int .i64 a0_0, .int .u32 a0_1, .int .u32 a0_2, .int .i64 a0_3, .int .i64 a0_4]) (t := 30) ?hr ?_; (case hd => rfl); (case hg => rfl); (case hr => first | (go_simp; done) | (go_simp; rfl)); intro gb642 hg w2 hbox hb; have n0_ := Aside0.mk (below_step (BW HB) hb); have n1_ := Aside0.mk (hbox); have n2_ := Aside0.mk ((by rw [hg]; exact (below_size (BW HB)) : w.heap.size ≤ gb642)); have n3_ := Aside0.mk ((by rw [hg]; exact (below_size (BW HB)) : w.heap.size ≤ gb642)); clear HB; have HB := n0_; have BK642 := n1_; have GW642 := n2_; have GE642 := n3_; clear n0_ n1_ n2_ n3_; clear hb hbox hg) | ((with_reducible refine gate_dst (N := 2) rfl ?_); refine box_event ?hg (N := 2) ?hd (cs := #[.int .i64 0, .int .u32 0, .int .u32 0, .int .i64 0, .int .i64 0]) (t := 30) ?hr ?_; (case hd => rfl); (case hg => rfl); (case hr => first | (go_simp; done) | (go_simp; rfl)); intro gb643 hg w3 hbox hb; have n0_ := Aside0.mk (blk_below (g := gb642) (o := .cells #[.int .i64 a0_0, .int .u32 a0_1, .int .u32 a0_2, .int .i64 a0_3, .int .i64 a0_4] 30 (0, 0)) (BD BK642) hb); have n1_ := Aside0.mk (below_step (BW HB) hb); have n2_ := Aside0.mk (hbox); have n3_ := Aside0.mk ((by rw [hg]; exact (below_size (BW HB)) : w.heap.size ≤ gb643)); have n4_ := Aside0.mk ((by rw [hg]; exact (below_size (BW HB)) : w.heap.size ≤ gb643)); have n5_ := Aside0.mk ((by rw [hg]; exact Nat.ne_of_lt (blk_lt (g := gb642) (o := .cells #[.int .i64 a0_0, .int .u32 a0_1, .int .u32 a0_2, .int .i64 a0_3, .int .i64 a0_4] 30 (0, 0)) (BD BK642)) : gb642 ≠ gb643)); have n6_ := Aside0.mk ((by rw [hg]; exact Nat.ne_of_gt (blk_lt (g := gb642) (o := .cells #[.int .i64 a0_0, .int .u32 a0_1, .int .u32 a0_2, .int .i64 a0_3, .int .i64 a0_4] 30 (0, 0)) (BD BK642)) : gb643 ≠ gb642)); clear BK642; clear HB; have BK642 := n0_; have HB := n1_; have BK643 := n2_; have GW643 := n3_; have GE643 := n4_; have NB642_643 := n5_; have NB643_642 := n6_; clear n0_ n1_ n2_ n3_ n4_ n5_ n6_; clear hb hbox hg; have hnb4 := NB642_643.out; have hnc4 := NB643_642.out; obtain ⟨hcz5_0, hcz5_1, hcz5_2, hcz5_3, hcz5_4, hfz5_0, hfz5_1, hfz5_2, hfz5_3, hfz5_4⟩ := blk5 BK642.out; obtain ⟨hcz6_0, hcz6_1, hcz6_2, hcz6_3, hcz6_4, hfz6_0, hfz6_1, hfz6_2, hfz6_3, hfz6_4⟩ := blk5 BK643.out))
 refine bodyPost_ret (results_cell_row rfl _ _ gb643 30 #[.int .i64 a0_0, .int .u32 a0_2, .int .u32 a0_1, .int .i64 a0_4, .int .i64 a0_3] (0, 0) _ rfl (by (with_reducible repeat (first | refine blk_drewN ?_ _ | refine blk_drew ?_ | refine blk_alloc ?_ _)); refine blk_put (cs := #[.int .i64 a0_0, .int .u32 a0_2, .int .u32 a0_1, .int .i64 a0_4, .int .i64 0]) ?_ 4 _ rfl; (with_reducible repeat (first | refine blk_drewN ?_ _ | refine blk_drew ?_ | refine blk_alloc ?_ _)); refine blk_put (cs := #[.int .i64 a0_0, .int .u32 a0_2, .int .u32 a0_1, .int .i64 0, .int .i64 0]) ?_ 3 _ rfl; (with_reducible repeat (first | refine blk_drewN ?_ _ | refine blk_drew ?_ | refine blk_alloc ?_ _)); refine blk_put (cs := #[.int .i64 a0_0, .int .u32 a0_2, .int .u32 0, .int .i64 0, .int .i64 0]) ?_ 2 _ rfl; (with_reducible repeat (first | refine blk_drewN ?_ _ | refine blk_drew ?_ | refine blk_alloc ?_ _)); refine blk_put (cs := #[.int .i64 a0_0, .int .u32 0, .int .u32 0, .int .i64 0, .int .i64 0]) ?_ 1 _ rfl; (with_reducible repeat (first | refine blk_drewN ?_ _ | refine blk_drew ?_ | refine blk_alloc ?_ _)); refine blk_put (cs := #[.int .i64 0, .int .u32 0, .int .u32 0, .int .i64 0, .int .i64 0]) ?_ 0 _ rfl; (with_reducible repeat (first | refine blk_drewN ?_ _ | refine blk_drew ?_ | refine blk_alloc ?_ _)); exact BK643.out) Try.underlying30 rfl (by kernel_rfl)) rfl ?_
 exact ⟨RT, BW HB⟩

end Go.Proofs.Ytkganedlhcepfaa.Pr
