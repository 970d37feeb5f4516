-- Written by a program of the session (wip/tools) out of the translation, over the kit's print; with pieces of the session's own.
import Derived.Test.YthmpmladneiegaaPr0
import Derived.Test.YthmpmladneiegaaPr7
import Derived.Test.YthmpmladneiegaaPr8
import Derived.Test.YthmpmladneiegaaPr19
namespace Go.Proofs.Ythmpmladneiegaa.Pr
open Go.RowKit Go.Proofs.YthmpmladneiegaaW.PrintWords Go.Proofs.YthmpmladneiegaaW.PrintLast Go.Proofs.YthmpmladneiegaaW.PrintMore
attribute [local go_sem] max2_int min2_int max_two min_two max_three min_three max_four min_four   -- for this text's walks alone
set_option linter.unusedVariables false
set_option linter.unusedSimpArgs false
open Go.Proofs.Ythmpmladneiegaa.Sp
/-! ### weighbridgeref07_Build_p: function 23 -/
def weighbridgeref07_Build_p.j0 : Nat → Bool → Int → Int → Int → ByteArray → Option (ByteArray × Int)
  | 0, _, _, _, _, _ => none
  | k + 1, x23, x260000, x260001, x260002, x260003 => if x23 = true then (some ((⟨#[]⟩ : ByteArray), 1)) else (if (wrap64 (8 + (x260003.size : Int))) > 1500 then (some ((⟨#[]⟩ : ByteArray), 18)) else ((weighbridgeref04_Num.f 1 x260000).bind fun t260 => ((weighbridgeref04_Num.f 1 x260001).bind fun t261 => (if t260.size + t261.size ≤ 9223372036854775807 then ((weighbridgeref04_Num.f 4 (wrap64 (x260002))).bind fun t262 => (if t262.size + x260003.size ≤ 9223372036854775807 then (if (t260 ++ t261).size + 2 ≤ 9223372036854775807 then (if ((t260 ++ t261) ++ (⟨#[0, 0]⟩ : ByteArray)).size + (t262 ++ x260003).size ≤ 9223372036854775807 then ((weighbridgeref03_Check.f (((t260 ++ t261) ++ (⟨#[0, 0]⟩ : ByteArray)) ++ (t262 ++ x260003))).bind fun t263 => ((weighbridgeref04_Num.f 2 (wrap64 (t263))).bind fun t264 => (if (t260 ++ t261).size + t264.size ≤ 9223372036854775807 then (if ((t260 ++ t261) ++ t264).size + (t262 ++ x260003).size ≤ 9223372036854775807 then (some (((t260 ++ t261) ++ t264) ++ (t262 ++ x260003), 0)) else (none)) else (none)))) else (none)) else (none)) else (none))) else (none)))))
def weighbridgeref07_Build_p.f (k : Nat) (a0_0 : Int) (a0_1 : Int) (a0_2 : Int) (a0_3 : ByteArray) : Option (ByteArray × Int) := if a0_0 < 0 then (weighbridgeref07_Build_p.j0 k true a0_0 a0_1 a0_2 a0_3) else (if a0_0 > 255 then (weighbridgeref07_Build_p.j0 k true a0_0 a0_1 a0_2 a0_3) else (if a0_1 < 0 then (weighbridgeref07_Build_p.j0 k true a0_0 a0_1 a0_2 a0_3) else (weighbridgeref07_Build_p.j0 k (decide (a0_1 > 255)) a0_0 a0_1 a0_2 a0_3)))
theorem weighbridgeref07_Build_p.mono_l : ∀ k, (∀ y0 y1 y2 y3 y4, LeO (weighbridgeref07_Build_p.j0 k y0 y1 y2 y3 y4) (weighbridgeref07_Build_p.j0 (k + 1) y0 y1 y2 y3 y4))
  | 0 => fun _ _ _ _ _ r h => by simp [weighbridgeref07_Build_p.j0] at h
  | k + 1 => by
    have ih0 := weighbridgeref07_Build_p.mono_l k
    · intro y0 y1 y2 y3 y4
      unfold weighbridgeref07_Build_p.j0
      repeat' first
      | (with_reducible exact ih0 _ _ _ _ _)
      | (with_reducible exact LeO.refl _)
      | (with_reducible exact LeO.none _)
      | (with_reducible refine LeO.ite ?_ ?_)
      | (with_reducible refine LeO.bind ?_ (fun _ => ?_))
      | exact ih0 _ _ _ _ _
      | exact LeO.none _
      | refine LeO.ite ?_ ?_
      | refine LeO.bind ?_ (fun _ => ?_)
theorem weighbridgeref07_Build_p.mono : ∀ a0 a1 a2 a3 k, LeO (weighbridgeref07_Build_p.f k a0 a1 a2 a3) (weighbridgeref07_Build_p.f (k + 1) a0 a1 a2 a3) := by
  intro a0 a1 a2 a3 k
  have ih0 := weighbridgeref07_Build_p.mono_l k
  unfold weighbridgeref07_Build_p.f
  repeat' first
      | (with_reducible exact ih0 _ _ _ _ _)
      | (with_reducible exact LeO.refl _)
      | (with_reducible exact LeO.none _)
      | (with_reducible refine LeO.ite ?_ ?_)
      | (with_reducible refine LeO.bind ?_ (fun _ => ?_))
      | exact ih0 _ _ _ _ _
      | exact LeO.none _
      | refine LeO.ite ?_ ?_
      | refine LeO.bind ?_ (fun _ => ?_)
def weighbridgeref07_Build_p.T5 : Bool × List (List Nat × List Nat) := (true, [([], []), ([0], [0]), ([1], [1]), ([], []), ([3], [3]), ([4, 2], [4]), ([2, 5], [2, 5]), ([6, 5, 0, 1, 2, 3, 4, 5, 6], [6])])
def weighbridgeref07_Build_p.B5 : List Nat := [0, 1, 3, 0, 8, 31, 63, 127]
theorem weighbridgeref07_Build_p.tab5 : rtab .any (opsOf Try.f23 5) = weighbridgeref07_Build_p.T5 := by kernel_rfl
theorem weighbridgeref07_Build_p.bits5 : waitsOk weighbridgeref07_Build_p.T5.2 weighbridgeref07_Build_p.B5 = true := by kernel_rfl
def weighbridgeref07_Build_p.T6 : Bool × List (List Nat × List Nat) := (true, [([], []), ([0], [0]), ([1], [1]), ([2], [2]), ([], []), ([4], [4]), ([3, 5], [3, 5]), ([6, 3, 0, 1, 2, 3, 4, 5, 6], [6])])
def weighbridgeref07_Build_p.B6 : List Nat := [0, 1, 3, 7, 0, 16, 63, 127]
theorem weighbridgeref07_Build_p.tab6 : rtab .any (opsOf Try.f23 6) = weighbridgeref07_Build_p.T6 := by kernel_rfl
theorem weighbridgeref07_Build_p.bits6 : waitsOk weighbridgeref07_Build_p.T6.2 weighbridgeref07_Build_p.B6 = true := by kernel_rfl
set_option maxHeartbeats 8000000 in
set_option maxRecDepth 100000 in
theorem weighbridgeref07_Build_p.calls (k : Nat) (a0_0 : Int) (a0_1 : Int) (a0_2 : Int) (a0_3 : ByteArray) (r1 : ByteArray) (r2 : Int) (w : World) (h : weighbridgeref07_Build_p.f k a0_0 a0_1 a0_2 a0_3 = some (r1, r2)) :
    Calls Try.prog 23 #[.agg #[.int .i64 a0_0, .int .i64 a0_1, .int .u32 a0_2, .string a0_3]] w fun e w' => e = .returned (.tuple #[.string r1, .int .i64 r2]) ∧ Below w.heap.size w w' := by
  have hu48 := Try.underlying48
  have HB := Aside0.mk (Below.refl w.heap.size w)
  have H : (if a0_0 < 0 then (weighbridgeref07_Build_p.j0 k true a0_0 a0_1 a0_2 a0_3) else (if a0_0 > 255 then (weighbridgeref07_Build_p.j0 k true a0_0 a0_1 a0_2 a0_3) else (if a0_1 < 0 then (weighbridgeref07_Build_p.j0 k true a0_0 a0_1 a0_2 a0_3) else (weighbridgeref07_Build_p.j0 k (decide (a0_1 > 255)) a0_0 a0_1 a0_2 a0_3)))) = some (r1, r2) := h
  clear h
  have HC2 := Aside0.mk H
  clear H
  go_enter Try.func23, Try.ntmps23
  go_upto_region 1 with (first | ((with_reducible refine gate_dst (N := 1) rfl ?_); refine box_event ?hg (N := 1) ?hd (cs := #[.int .i64 a0_0, .int .i64 a0_1, .int .u32 a0_2, .string a0_3]) (t := 48) ?hr ?_; (case hd => rfl); (case hg => rfl); (case hr => first | (go_simp; done) | (go_simp; rfl)); intro gb259 hg w3 hbox hb; have n0_ := Aside0.mk (below_step (by repeat (first | (with_reducible first | exact HB.out | apply below_alloc | apply pw_below_drewN | apply below_drew1) | exact HB.out)) hb); have n1_ := Aside0.mk (hbox); have n2_ := Aside0.mk ((by rw [hg]; exact (below_size (by repeat (first | (with_reducible first | exact HB.out | apply below_alloc | apply pw_below_drewN | apply below_drew1) | exact HB.out))) : w.heap.size ≤ gb259)); have n3_ := Aside0.mk ((by rw [hg]; exact (below_size (by repeat (first | (with_reducible first | exact HB.out | apply below_alloc | apply pw_below_drewN | apply below_drew1) | exact HB.out))) : w.heap.size ≤ gb259)); clear HB; have HB := n0_; have BK259 := n1_; have GW259 := n2_; have GE259 := n3_; clear n0_ n1_ n2_ n3_; clear hb hbox hg))
  (try simp only [Act.put, List.setIfInBounds_toArray, List.set_cons_zero, List.set_cons_succ])
  go_cut [23] (fun v23 wc => ∃ (kq : Nat) (x23_1 : Bool), v23 = .bool x23_1 ∧ Aside0 (weighbridgeref07_Build_p.j0 kq x23_1 a0_0 a0_1 a0_2 a0_3 = some (r1, r2)) ∧ Aside0 (kq ≤ k) ∧ Aside0 (wc.heap[gb259]? = some (.cells #[.int .i64 a0_0, .int .i64 a0_1, .int .u32 a0_2, .string a0_3] 48 (0, 0))) ∧ Aside0 (Below w.heap.size w wc))
  case first =>
    have H := HC2.out
    clear HC2
    by_cases c4 : a0_0 < 0
    · rw [if_pos c4] at H
      have c4b0 : decide (a0_0 < 0) = true := decide_eq_true c4
      clear c4
      (first | rw [c4b0] | (simp only [i64_w, i32_w]; rw [c4b0]) | skip)
      have H' := Aside0.mk H
      clear H
      have hcz5_0 : w3.cell? ⟨gb259, 0, none⟩ = some (.int .i64 a0_0) := (blk_cell BK259.out 0).trans rfl
      have hcz5_1 : w3.cell? ⟨gb259, 1, none⟩ = some (.int .i64 a0_1) := (blk_cell BK259.out 1).trans rfl
      have hcz5_2 : w3.cell? ⟨gb259, 2, none⟩ = some (.int .u32 a0_2) := (blk_cell BK259.out 2).trans rfl
      have hcz5_3 : w3.cell? ⟨gb259, 3, none⟩ = some (.string a0_3) := (blk_cell BK259.out 3).trans rfl
      have hfz5_0 := blk_frozen BK259.out 0
      have hfz5_1 := blk_frozen BK259.out 1
      have hfz5_2 := blk_frozen BK259.out 2
      have hfz5_3 := blk_frozen BK259.out 3
      go_wp2
      go_meet
      case rel => exact ⟨_, (true), (by first | rfl | (simp; done) | (congr 2; simp only [ByteArray.size_extract, ByteArray.size_append]; (try unfold wrap64); omega) | (simp only [ByteArray.size_extract, ByteArray.size_append, Nat.sub_zero]; done) | (congr 1; simp only [ByteArray.size_extract, ByteArray.size_append, Nat.sub_zero]; omega) | (simp [*]; done)), H', ⟨by first | omega | exact Nat.le_refl _⟩, ⟨by (with_reducible repeat (first | refine blk_drewN ?_ _ | refine blk_drew ?_ | refine blk_alloc ?_ _)); exact BK259.out⟩, ⟨by repeat (first | (with_reducible first | exact HB.out | apply below_alloc | apply pw_below_drewN | apply below_drew1 | refine below_set ?_ GE259.out) | exact HB.out)⟩⟩
    · rw [if_neg c4] at H
      have c4b0 : decide (a0_0 < 0) = false := decide_eq_false c4
      clear c4
      (first | rw [c4b0] | (simp only [i64_w, i32_w]; rw [c4b0]) | skip)
      by_cases c6 : a0_0 > 255
      · rw [if_pos c6] at H
        have c6b0 : decide (255 < a0_0) = true := decide_eq_true c6
        clear c6
        have H' := Aside0.mk H
        clear H
        have hcz7_0 : w3.cell? ⟨gb259, 0, none⟩ = some (.int .i64 a0_0) := (blk_cell BK259.out 0).trans rfl
        have hcz7_1 : w3.cell? ⟨gb259, 1, none⟩ = some (.int .i64 a0_1) := (blk_cell BK259.out 1).trans rfl
        have hcz7_2 : w3.cell? ⟨gb259, 2, none⟩ = some (.int .u32 a0_2) := (blk_cell BK259.out 2).trans rfl
        have hcz7_3 : w3.cell? ⟨gb259, 3, none⟩ = some (.string a0_3) := (blk_cell BK259.out 3).trans rfl
        have hfz7_0 := blk_frozen BK259.out 0
        have hfz7_1 := blk_frozen BK259.out 1
        have hfz7_2 := blk_frozen BK259.out 2
        have hfz7_3 := blk_frozen BK259.out 3
        go_wp2
        go_meet
        case rel => exact ⟨_, (true), (by first | rfl | (simp; done) | (congr 2; simp only [ByteArray.size_extract, ByteArray.size_append]; (try unfold wrap64); omega) | (simp only [ByteArray.size_extract, ByteArray.size_append, Nat.sub_zero]; done) | (congr 1; simp only [ByteArray.size_extract, ByteArray.size_append, Nat.sub_zero]; omega) | (simp [*]; done)), H', ⟨by first | omega | exact Nat.le_refl _⟩, ⟨by (with_reducible repeat (first | refine blk_drewN ?_ _ | refine blk_drew ?_ | refine blk_alloc ?_ _)); exact BK259.out⟩, ⟨by repeat (first | (with_reducible first | exact HB.out | apply below_alloc | apply pw_below_drewN | apply below_drew1 | refine below_set ?_ GE259.out) | exact HB.out)⟩⟩
      · rw [if_neg c6] at H
        have c6b0 : decide (255 < a0_0) = false := decide_eq_false c6
        clear c6
        by_cases c8 : a0_1 < 0
        · rw [if_pos c8] at H
          have c8b0 : decide (a0_1 < 0) = true := decide_eq_true c8
          clear c8
          have H' := Aside0.mk H
          clear H
          have hcz9_0 : w3.cell? ⟨gb259, 0, none⟩ = some (.int .i64 a0_0) := (blk_cell BK259.out 0).trans rfl
          have hcz9_1 : w3.cell? ⟨gb259, 1, none⟩ = some (.int .i64 a0_1) := (blk_cell BK259.out 1).trans rfl
          have hcz9_2 : w3.cell? ⟨gb259, 2, none⟩ = some (.int .u32 a0_2) := (blk_cell BK259.out 2).trans rfl
          have hcz9_3 : w3.cell? ⟨gb259, 3, none⟩ = some (.string a0_3) := (blk_cell BK259.out 3).trans rfl
          have hfz9_0 := blk_frozen BK259.out 0
          have hfz9_1 := blk_frozen BK259.out 1
          have hfz9_2 := blk_frozen BK259.out 2
          have hfz9_3 := blk_frozen BK259.out 3
          go_wp2
          go_meet
          case rel => exact ⟨_, (true), (by first | rfl | (simp; done) | (congr 2; simp only [ByteArray.size_extract, ByteArray.size_append]; (try unfold wrap64); omega) | (simp only [ByteArray.size_extract, ByteArray.size_append, Nat.sub_zero]; done) | (congr 1; simp only [ByteArray.size_extract, ByteArray.size_append, Nat.sub_zero]; omega) | (simp [*]; done)), H', ⟨by first | omega | exact Nat.le_refl _⟩, ⟨by (with_reducible repeat (first | refine blk_drewN ?_ _ | refine blk_drew ?_ | refine blk_alloc ?_ _)); exact BK259.out⟩, ⟨by repeat (first | (with_reducible first | exact HB.out | apply below_alloc | apply pw_below_drewN | apply below_drew1 | refine below_set ?_ GE259.out) | exact HB.out)⟩⟩
        · rw [if_neg c8] at H
          have c8b0 : decide (a0_1 < 0) = false := decide_eq_false c8
          clear c8
          have H' := Aside0.mk H
          clear H
          have hcz10_0 : w3.cell? ⟨gb259, 0, none⟩ = some (.int .i64 a0_0) := (blk_cell BK259.out 0).trans rfl
          have hcz10_1 : w3.cell? ⟨gb259, 1, none⟩ = some (.int .i64 a0_1) := (blk_cell BK259.out 1).trans rfl
          have hcz10_2 : w3.cell? ⟨gb259, 2, none⟩ = some (.int .u32 a0_2) := (blk_cell BK259.out 2).trans rfl
          have hcz10_3 : w3.cell? ⟨gb259, 3, none⟩ = some (.string a0_3) := (blk_cell BK259.out 3).trans rfl
          have hfz10_0 := blk_frozen BK259.out 0
          have hfz10_1 := blk_frozen BK259.out 1
          have hfz10_2 := blk_frozen BK259.out 2
          have hfz10_3 := blk_frozen BK259.out 3
          go_wp2
          go_meet
          case rel => exact ⟨_, (decide (a0_1 > 255)), (by first | rfl | (simp; done) | (congr 2; simp only [ByteArray.size_extract, ByteArray.size_append]; (try unfold wrap64); omega) | (simp only [ByteArray.size_extract, ByteArray.size_append, Nat.sub_zero]; done) | (congr 1; simp only [ByteArray.size_extract, ByteArray.size_append, Nat.sub_zero]; omega) | (simp [*]; done)), H', ⟨by first | omega | exact Nat.le_refl _⟩, ⟨by (with_reducible repeat (first | refine blk_drewN ?_ _ | refine blk_drew ?_ | refine blk_alloc ?_ _)); exact BK259.out⟩, ⟨by repeat (first | (with_reducible first | exact HB.out | apply below_alloc | apply pw_below_drewN | apply below_drew1 | refine below_set ?_ GE259.out) | exact HB.out)⟩⟩
  case rest =>
    clear HC2
    try clear c2
    try clear p2
    try clear c4
    try clear c4b0
    try clear c6
    try clear c6b0
    try clear c8
    try clear c8b0
    try clear hcz10_0
    try clear hcz10_1
    try clear hcz10_2
    try clear hcz10_3
    try clear hcz5_0
    try clear hcz5_1
    try clear hcz5_2
    try clear hcz5_3
    try clear hcz7_0
    try clear hcz7_1
    try clear hcz7_2
    try clear hcz7_3
    try clear hcz9_0
    try clear hcz9_1
    try clear hcz9_2
    try clear hcz9_3
    try clear hfz10_0
    try clear hfz10_1
    try clear hfz10_2
    try clear hfz10_3
    try clear hfz5_0
    try clear hfz5_1
    try clear hfz5_2
    try clear hfz5_3
    try clear hfz7_0
    try clear hfz7_1
    try clear hfz7_2
    try clear hfz7_3
    try clear hfz9_0
    try clear hfz9_1
    try clear hfz9_2
    try clear hfz9_3
    obtain ⟨kq, x23_1, rfl, HA, HJ1, BK259, HB⟩ := hcut
    cases kq with
    | zero => exact absurd HA.out (by simp [weighbridgeref07_Build_p.j0])
    | succ kj1 =>
      have H := HA.out
      clear HA
      simp only [weighbridgeref07_Build_p.j0] at H
      by_cases c11 : x23_1 = true
      · subst c11
        have H1 : (some ((⟨#[]⟩ : ByteArray), 1)) = some (r1, r2) := by rw [if_pos rfl] at H; exact H
        clear H
        have H := H1
        clear H1
        simp only [Option.some.injEq, Prod.mk.injEq] at H
        obtain ⟨rfl, rfl⟩ := H
        go_wp2
        go_ret2
        exact ⟨by first | rfl | (simp [errW_none, errW_some] <;> rfl) | (simp [*, errW_none, errW_some] <;> rfl), by repeat (first | (with_reducible first | exact HB.out | apply below_alloc | apply pw_below_drewN | apply below_drew1 | refine below_set ?_ GE259.out) | exact HB.out)⟩
      · replace c11 := Bool.eq_false_iff.mpr c11
        subst c11
        have H1 : (if (wrap64 (8 + (a0_3.size : Int))) > 1500 then (some ((⟨#[]⟩ : ByteArray), 18)) else ((weighbridgeref04_Num.f 1 a0_0).bind fun t260 => ((weighbridgeref04_Num.f 1 a0_1).bind fun t261 => (if t260.size + t261.size ≤ 9223372036854775807 then ((weighbridgeref04_Num.f 4 (wrap64 (a0_2))).bind fun t262 => (if t262.size + a0_3.size ≤ 9223372036854775807 then (if (t260 ++ t261).size + 2 ≤ 9223372036854775807 then (if ((t260 ++ t261) ++ (⟨#[0, 0]⟩ : ByteArray)).size + (t262 ++ a0_3).size ≤ 9223372036854775807 then ((weighbridgeref03_Check.f (((t260 ++ t261) ++ (⟨#[0, 0]⟩ : ByteArray)) ++ (t262 ++ a0_3))).bind fun t263 => ((weighbridgeref04_Num.f 2 (wrap64 (t263))).bind fun t264 => (if (t260 ++ t261).size + t264.size ≤ 9223372036854775807 then (if ((t260 ++ t261) ++ t264).size + (t262 ++ a0_3).size ≤ 9223372036854775807 then (some (((t260 ++ t261) ++ t264) ++ (t262 ++ a0_3), 0)) else (none)) else (none)))) else (none)) else (none)) else (none))) else (none))))) = some (r1, r2) := by rw [if_neg (show ¬ (false = true) by decide)] at H; exact H
        clear H
        have H := H1
        clear H1
        by_cases c12 : (wrap64 (8 + (a0_3.size : Int))) > 1500
        · rw [if_pos c12] at H
          have c12b0 : decide (1500 < (wrap64 (8 + (a0_3.size : Int)))) = true := decide_eq_true c12
          clear c12
          simp only [Option.some.injEq, Prod.mk.injEq] at H
          obtain ⟨rfl, rfl⟩ := H
          have hcz13_0 : wc.cell? ⟨gb259, 0, none⟩ = some (.int .i64 a0_0) := (blk_cell BK259.out 0).trans rfl
          have hcz13_1 : wc.cell? ⟨gb259, 1, none⟩ = some (.int .i64 a0_1) := (blk_cell BK259.out 1).trans rfl
          have hcz13_2 : wc.cell? ⟨gb259, 2, none⟩ = some (.int .u32 a0_2) := (blk_cell BK259.out 2).trans rfl
          have hcz13_3 : wc.cell? ⟨gb259, 3, none⟩ = some (.string a0_3) := (blk_cell BK259.out 3).trans rfl
          have hfz13_0 := blk_frozen BK259.out 0
          have hfz13_1 := blk_frozen BK259.out 1
          have hfz13_2 := blk_frozen BK259.out 2
          have hfz13_3 := blk_frozen BK259.out 3
          go_wp2
          go_ret2
          exact ⟨by first | rfl | (simp [errW_none, errW_some] <;> rfl) | (simp [*, errW_none, errW_some] <;> rfl), by repeat (first | (with_reducible first | exact HB.out | apply below_alloc | apply pw_below_drewN | apply below_drew1 | refine below_set ?_ GE259.out) | exact HB.out)⟩
        · rw [if_neg c12] at H
          have c12b0 : decide (1500 < (wrap64 (8 + (a0_3.size : Int)))) = false := decide_eq_false c12
          clear c12
          replace H := Option.bind_eq_some_iff.mp H
          obtain ⟨t260, A140, H⟩ := H
          replace H : ((weighbridgeref04_Num.f 1 a0_1).bind fun t261 => (if t260.size + t261.size ≤ 9223372036854775807 then ((weighbridgeref04_Num.f 4 (wrap64 (a0_2))).bind fun t262 => (if t262.size + a0_3.size ≤ 9223372036854775807 then (if (t260 ++ t261).size + 2 ≤ 9223372036854775807 then (if ((t260 ++ t261) ++ (⟨#[0, 0]⟩ : ByteArray)).size + (t262 ++ a0_3).size ≤ 9223372036854775807 then ((weighbridgeref03_Check.f (((t260 ++ t261) ++ (⟨#[0, 0]⟩ : ByteArray)) ++ (t262 ++ a0_3))).bind fun t263 => ((weighbridgeref04_Num.f 2 (wrap64 (t263))).bind fun t264 => (if (t260 ++ t261).size + t264.size ≤ 9223372036854775807 then (if ((t260 ++ t261) ++ t264).size + (t262 ++ a0_3).size ≤ 9223372036854775807 then (some (((t260 ++ t261) ++ t264) ++ (t262 ++ a0_3), 0)) else (none)) else (none)))) else (none)) else (none)) else (none))) else (none))) = some (r1, r2) := H
          have A14 := Aside0.mk A140
          clear A140
          replace H := Option.bind_eq_some_iff.mp H
          obtain ⟨t261, A150, H⟩ := H
          replace H : (if t260.size + t261.size ≤ 9223372036854775807 then ((weighbridgeref04_Num.f 4 (wrap64 (a0_2))).bind fun t262 => (if t262.size + a0_3.size ≤ 9223372036854775807 then (if (t260 ++ t261).size + 2 ≤ 9223372036854775807 then (if ((t260 ++ t261) ++ (⟨#[0, 0]⟩ : ByteArray)).size + (t262 ++ a0_3).size ≤ 9223372036854775807 then ((weighbridgeref03_Check.f (((t260 ++ t261) ++ (⟨#[0, 0]⟩ : ByteArray)) ++ (t262 ++ a0_3))).bind fun t263 => ((weighbridgeref04_Num.f 2 (wrap64 (t263))).bind fun t264 => (if (t260 ++ t261).size + t264.size ≤ 9223372036854775807 then (if ((t260 ++ t261) ++ t264).size + (t262 ++ a0_3).size ≤ 9223372036854775807 then (some (((t260 ++ t261) ++ t264) ++ (t262 ++ a0_3), 0)) else (none)) else (none)))) else (none)) else (none)) else (none))) else (none)) = some (r1, r2) := H
          have A15 := Aside0.mk A150
          clear A150
          by_cases c16 : t260.size + t261.size ≤ 9223372036854775807
          · rw [if_pos c16] at H
            have c16b0 := eq_true c16
            have c16b1 : decide (t260.size + t261.size ≤ 9223372036854775807) = true := decide_eq_true c16
            try have c16b2 : (9223372036854775807 < t260.size + t261.size) = False := eq_false (Nat.not_lt.2 c16)
            replace H := Option.bind_eq_some_iff.mp H
            obtain ⟨t262, A170, H⟩ := H
            replace H : (if t262.size + a0_3.size ≤ 9223372036854775807 then (if (t260 ++ t261).size + 2 ≤ 9223372036854775807 then (if ((t260 ++ t261) ++ (⟨#[0, 0]⟩ : ByteArray)).size + (t262 ++ a0_3).size ≤ 9223372036854775807 then ((weighbridgeref03_Check.f (((t260 ++ t261) ++ (⟨#[0, 0]⟩ : ByteArray)) ++ (t262 ++ a0_3))).bind fun t263 => ((weighbridgeref04_Num.f 2 (wrap64 (t263))).bind fun t264 => (if (t260 ++ t261).size + t264.size ≤ 9223372036854775807 then (if ((t260 ++ t261) ++ t264).size + (t262 ++ a0_3).size ≤ 9223372036854775807 then (some (((t260 ++ t261) ++ t264) ++ (t262 ++ a0_3), 0)) else (none)) else (none)))) else (none)) else (none)) else (none)) = some (r1, r2) := H
            have A17 := Aside0.mk A170
            clear A170
            by_cases c18 : t262.size + a0_3.size ≤ 9223372036854775807
            · rw [if_pos c18] at H
              have c18b0 := eq_true c18
              have c18b1 : decide (t262.size + a0_3.size ≤ 9223372036854775807) = true := decide_eq_true c18
              try have c18b2 : (9223372036854775807 < t262.size + a0_3.size) = False := eq_false (Nat.not_lt.2 c18)
              by_cases c19 : (t260 ++ t261).size + 2 ≤ 9223372036854775807
              · rw [if_pos c19] at H
                have c19b0 := eq_true c19
                have c19b1 : decide ((t260 ++ t261).size + 2 ≤ 9223372036854775807) = true := decide_eq_true c19
                try have c19b2 : (9223372036854775807 < (t260 ++ t261).size + 2) = False := eq_false (Nat.not_lt.2 c19)
                (try (have c19r := c19; (repeat rw [ByteArray.size_append] at c19r); (repeat rw [ByteArray.size_extract] at c19r); (repeat rw [Nat.sub_zero] at c19r); (repeat rw [Nat.min_self] at c19r); have c19rt := eq_true c19r; have c19ru := eq_false (Nat.not_lt.mpr c19r); clear c19r))
                (try (have c19s := c19; simp [c16b0, c18b0] at c19s; have c19t := eq_true c19s; have c19u := eq_false (Nat.not_lt.mpr c19s); clear c19s))
                by_cases c20 : ((t260 ++ t261) ++ (⟨#[0, 0]⟩ : ByteArray)).size + (t262 ++ a0_3).size ≤ 9223372036854775807
                · rw [if_pos c20] at H
                  have c20b0 := eq_true c20
                  have c20b1 : decide (((t260 ++ t261) ++ (⟨#[0, 0]⟩ : ByteArray)).size + (t262 ++ a0_3).size ≤ 9223372036854775807) = true := decide_eq_true c20
                  try have c20b2 : (9223372036854775807 < ((t260 ++ t261) ++ (⟨#[0, 0]⟩ : ByteArray)).size + (t262 ++ a0_3).size) = False := eq_false (Nat.not_lt.2 c20)
                  (try (have c20r := c20; (repeat rw [ByteArray.size_append] at c20r); (repeat rw [ByteArray.size_extract] at c20r); (repeat rw [Nat.sub_zero] at c20r); (repeat rw [Nat.min_self] at c20r); (try rw [show (⟨#[0, 0]⟩ : ByteArray).size = 2 from rfl] at c20r); have c20rt := eq_true c20r; have c20ru := eq_false (Nat.not_lt.mpr c20r); clear c20r))
                  (try (have c20s := c20; simp [c16b0, c18b0, c19b0] at c20s; have c20t := eq_true c20s; have c20u := eq_false (Nat.not_lt.mpr c20s); clear c20s))
                  replace H := Option.bind_eq_some_iff.mp H
                  obtain ⟨t263, A210, H⟩ := H
                  replace H : ((weighbridgeref04_Num.f 2 (wrap64 (t263))).bind fun t264 => (if (t260 ++ t261).size + t264.size ≤ 9223372036854775807 then (if ((t260 ++ t261) ++ t264).size + (t262 ++ a0_3).size ≤ 9223372036854775807 then (some (((t260 ++ t261) ++ t264) ++ (t262 ++ a0_3), 0)) else (none)) else (none))) = some (r1, r2) := H
                  have A21 := Aside0.mk A210
                  clear A210
                  replace H := Option.bind_eq_some_iff.mp H
                  obtain ⟨t264, A220, H⟩ := H
                  replace H : (if (t260 ++ t261).size + t264.size ≤ 9223372036854775807 then (if ((t260 ++ t261) ++ t264).size + (t262 ++ a0_3).size ≤ 9223372036854775807 then (some (((t260 ++ t261) ++ t264) ++ (t262 ++ a0_3), 0)) else (none)) else (none)) = some (r1, r2) := H
                  have A22 := Aside0.mk A220
                  clear A220
                  by_cases c23 : (t260 ++ t261).size + t264.size ≤ 9223372036854775807
                  · rw [if_pos c23] at H
                    have c23b0 := eq_true c23
                    have c23b1 : decide ((t260 ++ t261).size + t264.size ≤ 9223372036854775807) = true := decide_eq_true c23
                    try have c23b2 : (9223372036854775807 < (t260 ++ t261).size + t264.size) = False := eq_false (Nat.not_lt.2 c23)
                    (try (have c23r := c23; (repeat rw [ByteArray.size_append] at c23r); (repeat rw [ByteArray.size_extract] at c23r); (repeat rw [Nat.sub_zero] at c23r); (repeat rw [Nat.min_self] at c23r); have c23rt := eq_true c23r; have c23ru := eq_false (Nat.not_lt.mpr c23r); clear c23r))
                    (try (have c23s := c23; simp [c16b0, c18b0, c19b0, c20b0] at c23s; have c23t := eq_true c23s; have c23u := eq_false (Nat.not_lt.mpr c23s); clear c23s))
                    by_cases c24 : ((t260 ++ t261) ++ t264).size + (t262 ++ a0_3).size ≤ 9223372036854775807
                    · rw [if_pos c24] at H
                      have c24b0 := eq_true c24
                      have c24b1 : decide (((t260 ++ t261) ++ t264).size + (t262 ++ a0_3).size ≤ 9223372036854775807) = true := decide_eq_true c24
                      try have c24b2 : (9223372036854775807 < ((t260 ++ t261) ++ t264).size + (t262 ++ a0_3).size) = False := eq_false (Nat.not_lt.2 c24)
                      (try (have c24r := c24; (repeat rw [ByteArray.size_append] at c24r); (repeat rw [ByteArray.size_extract] at c24r); (repeat rw [Nat.sub_zero] at c24r); (repeat rw [Nat.min_self] at c24r); have c24rt := eq_true c24r; have c24ru := eq_false (Nat.not_lt.mpr c24r); clear c24r))
                      (try (have c24s := c24; simp [c16b0, c18b0, c19b0, c20b0, c23b0] at c24s; have c24t := eq_true c24s; have c24u := eq_false (Nat.not_lt.mpr c24s); clear c24s))
                      simp only [Option.some.injEq, Prod.mk.injEq] at H
                      obtain ⟨rfl, rfl⟩ := H
                      have hcz25_0 : wc.cell? ⟨gb259, 0, none⟩ = some (.int .i64 a0_0) := (blk_cell BK259.out 0).trans rfl
                      have hcz25_1 : wc.cell? ⟨gb259, 1, none⟩ = some (.int .i64 a0_1) := (blk_cell BK259.out 1).trans rfl
                      have hcz25_2 : wc.cell? ⟨gb259, 2, none⟩ = some (.int .u32 a0_2) := (blk_cell BK259.out 2).trans rfl
                      have hcz25_3 : wc.cell? ⟨gb259, 3, none⟩ = some (.string a0_3) := (blk_cell BK259.out 3).trans rfl
                      have hfz25_0 := blk_frozen BK259.out 0
                      have hfz25_1 := blk_frozen BK259.out 1
                      have hfz25_2 := blk_frozen BK259.out 2
                      have hfz25_3 := blk_frozen BK259.out 3
                      try go_wp2
                      have n0_ := Aside0.mk (blk_drew BK259.out)
                      have n1_ := Aside0.mk (below_drew1 HB.out)
                      clear BK259
                      clear HB
                      have BK259 := n0_
                      have HB := n1_
                      clear n0_ n1_
                      refine start_ (n := 8) (S := fun w' => w'.cell? ⟨gb259, 0, none⟩ = some (.int .i64 a0_0) ∧ w'.cell? ⟨gb259, 1, none⟩ = some (.int .i64 a0_1) ∧ w'.cell? ⟨gb259, 2, none⟩ = some (.int .u32 a0_2) ∧ w'.cell? ⟨gb259, 3, none⟩ = some (.string a0_3)) (ds := []) #[false, false, false, false, false, false, false, false] (by kernel_rfl) rfl rfl ⟨(blk_cell BK259.out 0).trans rfl, (blk_cell BK259.out 1).trans rfl, (blk_cell BK259.out 2).trans rfl, (blk_cell BK259.out 3).trans rfl⟩ (fun hHeld => ?_); refine with_tabW weighbridgeref07_Build_p.tab5 weighbridgeref07_Build_p.bits5 (fun HT_ HW_ => ?_)
                      generalize wc.drew = w26 at BK259 HB hHeld ⊢
                      refine pure_ (i := 0) (N := some 29) (v := ?_) (a' := ?_) #[true, false, false, false, false, false, false, false] rfl rfl (any_of HT_.out (by kernel_rfl)) (fun _ _ _ h => h) (Or.inl ⟨by rfl, ?_⟩) ?_ ?_
                      rotate_left
                      · intro w'
                        go_simp
                        with_reducible rfl
                      rotate_left
                      · simp only [Act.put, List.setIfInBounds_toArray, List.set_cons_zero, List.set_cons_succ, i64_w, i32_w]
                        rfl
                      refine pure_ (i := 3) (N := some 32) (v := ?_) (a' := ?_) #[true, false, false, true, false, false, false, false] rfl rfl (any_of HT_.out (by kernel_rfl)) (fun _ _ _ h => h) (Or.inl ⟨by rfl, ?_⟩) ?_ ?_
                      rotate_left
                      · intro w'
                        go_simp
                        with_reducible rfl
                      rotate_left
                      · simp only [Act.put, List.setIfInBounds_toArray, List.set_cons_zero, List.set_cons_succ, i64_w, i32_w]
                        rfl
                      refine take_ (i := 1) (N := some 30) (v := ?_) (a' := ?_) #[true, true, false, true, false, false, false, false] rfl rfl (take_ofW HT_.out HW_.out (by kernel_rfl)) (fun _ _ _ h => h) (Or.inl ⟨by rfl, ?_⟩) hHeld ?_ ?_
                      rotate_left
                      · rintro w' ⟨s0, s1, s2, s3⟩
                        go_simp
                        with_reducible rfl
                      rotate_left
                      · simp only [Act.put, List.setIfInBounds_toArray, List.set_cons_zero, List.set_cons_succ, i64_w, i32_w]
                        rfl
                      refine take_ (i := 4) (N := some 33) (v := ?_) (a' := ?_) #[true, true, false, true, true, false, false, false] rfl rfl (take_ofW HT_.out HW_.out (by kernel_rfl)) (fun _ _ _ h => h) (Or.inl ⟨by rfl, ?_⟩) hHeld ?_ ?_
                      rotate_left
                      · rintro w' ⟨s0, s1, s2, s3⟩
                        go_simp
                        with_reducible rfl
                      rotate_left
                      · simp only [Act.put, List.setIfInBounds_toArray, List.set_cons_zero, List.set_cons_succ, i64_w, i32_w]
                        rfl
                      refine one_ (i := 2) (N := some 31) #[true, true, true, true, true, false, false, false] rfl rfl (one_of HT_.out (by kernel_rfl)) (by decide) (fun K hK => ?_)
                      refine goes_ Try.func32 (by kernel_rfl) rfl #[.int .i64 1, .int .i64 a0_0] (by rfl) rfl rfl (by (try simp only [List.map_toArray, List.map_cons, List.map_nil]); first | done | rfl | (simp only [List.length_drop, List.length_take]; rfl)) ?_
                      with_reducible refine (weighbridgeref04_Num.calls 1 a0_0 t260 _ A14.out).mono ?_
                      rintro e w27 ⟨rfl, hb⟩
                      refine ⟨_, rfl, ?_⟩
                      have n0_ := Aside0.mk (blk_below (g := gb259) (o := .cells #[.int .i64 a0_0, .int .i64 a0_1, .int .u32 a0_2, .string a0_3] 48 (0, 0)) (by (with_reducible repeat (first | refine blk_drewN ?_ _ | refine blk_drew ?_ | refine blk_alloc ?_ _)); exact BK259.out) hb)
                      have n1_ := Aside0.mk (below_step (by repeat (first | (with_reducible first | exact HB.out | apply below_alloc | apply pw_below_drewN | apply below_drew1 | refine below_set ?_ GE259.out) | exact HB.out)) hb)
                      clear BK259
                      clear HB
                      have BK259 := n0_
                      have HB := n1_
                      clear n0_ n1_
                      (try clear hb)
                      (try clear hb2)
                      (try clear hk)
                      (try clear hi)
                      refine hK.out _ _ ⟨(blk_cell BK259.out 0).trans rfl, (blk_cell BK259.out 1).trans rfl, (blk_cell BK259.out 2).trans rfl, (blk_cell BK259.out 3).trans rfl⟩ (fun hHeld => ?_)
                      clear hK K
                      refine norm_ (a' := ?_) ?_ ?_
                      rotate_left
                      · show Act.put _ (some 31) _ = _
                        simp only [Act.put, List.setIfInBounds_toArray, List.set_cons_zero, List.set_cons_succ, i64_w, i32_w]
                        rfl
                      refine one_ (i := 5) (N := some 34) #[true, true, true, true, true, true, false, false] rfl rfl (one_of HT_.out (by kernel_rfl)) (by decide) (fun K hK => ?_)
                      refine goes_ Try.func32 (by kernel_rfl) rfl #[.int .i64 1, .int .i64 a0_1] (by rfl) rfl rfl (by (try simp only [List.map_toArray, List.map_cons, List.map_nil]); first | done | rfl | (simp only [List.length_drop, List.length_take]; rfl)) ?_
                      with_reducible refine (weighbridgeref04_Num.calls 1 a0_1 t261 _ A15.out).mono ?_
                      rintro e w28 ⟨rfl, hb⟩
                      refine ⟨_, rfl, ?_⟩
                      have n0_ := Aside0.mk (blk_below (g := gb259) (o := .cells #[.int .i64 a0_0, .int .i64 a0_1, .int .u32 a0_2, .string a0_3] 48 (0, 0)) (by (with_reducible repeat (first | refine blk_drewN ?_ _ | refine blk_drew ?_ | refine blk_alloc ?_ _)); exact BK259.out) hb)
                      have n1_ := Aside0.mk (below_step (by repeat (first | (with_reducible first | exact HB.out | apply below_alloc | apply pw_below_drewN | apply below_drew1 | refine below_set ?_ GE259.out) | exact HB.out)) hb)
                      clear BK259
                      clear HB
                      have BK259 := n0_
                      have HB := n1_
                      clear n0_ n1_
                      (try clear hb)
                      (try clear hb2)
                      (try clear hk)
                      (try clear hi)
                      refine hK.out _ _ ⟨(blk_cell BK259.out 0).trans rfl, (blk_cell BK259.out 1).trans rfl, (blk_cell BK259.out 2).trans rfl, (blk_cell BK259.out 3).trans rfl⟩ (fun hHeld => ?_)
                      clear hK K
                      refine norm_ (a' := ?_) ?_ ?_
                      rotate_left
                      · show Act.put _ (some 34) _ = _
                        simp only [Act.put, List.setIfInBounds_toArray, List.set_cons_zero, List.set_cons_succ, i64_w, i32_w]
                        rfl
                      refine pure_ (i := 6) (N := some 35) (v := ?_) (a' := ?_) #[true, true, true, true, true, true, true, false] rfl rfl (any_of HT_.out (by kernel_rfl)) (fun _ _ _ h => h) (Or.inl ⟨by rfl, ?_⟩) ?_ ?_
                      rotate_left
                      · intro w'
                        go_simp
                        with_reducible rfl
                      rotate_left
                      · simp only [Act.put, List.setIfInBounds_toArray, List.set_cons_zero, List.set_cons_succ, i64_w, i32_w]
                        rfl
                      refine pure_ (i := 7) (N := some 4) (v := ?_) (a' := ?_) #[true, true, true, true, true, true, true, true] rfl rfl (any_of HT_.out (by kernel_rfl)) (fun _ _ _ h => h) (Or.inl ⟨by rfl, ?_⟩) ?_ ?_
                      rotate_left
                      · intro w'
                        go_simp
                        with_reducible rfl
                      rotate_left
                      · simp only [Act.put, List.setIfInBounds_toArray, List.set_cons_zero, List.set_cons_succ, i64_w, i32_w]
                        rfl
                      refine done_ (done_of HT_.out (by kernel_rfl)) ?_
                      try go_wp2
                      have n0_ := Aside0.mk (blk_drew BK259.out)
                      have n1_ := Aside0.mk (below_drew1 HB.out)
                      clear BK259
                      clear HB
                      have BK259 := n0_
                      have HB := n1_
                      clear n0_ n1_
                      refine start_ (n := 8) (S := fun w' => w'.cell? ⟨gb259, 0, none⟩ = some (.int .i64 a0_0) ∧ w'.cell? ⟨gb259, 1, none⟩ = some (.int .i64 a0_1) ∧ w'.cell? ⟨gb259, 2, none⟩ = some (.int .u32 a0_2) ∧ w'.cell? ⟨gb259, 3, none⟩ = some (.string a0_3)) (ds := []) #[false, false, false, false, false, false, false, false] (by kernel_rfl) rfl rfl ⟨(blk_cell BK259.out 0).trans rfl, (blk_cell BK259.out 1).trans rfl, (blk_cell BK259.out 2).trans rfl, (blk_cell BK259.out 3).trans rfl⟩ (fun hHeld => ?_); refine with_tabW weighbridgeref07_Build_p.tab6 weighbridgeref07_Build_p.bits6 (fun HT_ HW_ => ?_)
                      generalize w28.drew = w29 at BK259 HB hHeld ⊢
                      refine pure_ (i := 0) (N := some 36) (v := ?_) (a' := ?_) #[true, false, false, false, false, false, false, false] rfl rfl (any_of HT_.out (by kernel_rfl)) (fun _ _ _ h => h) (Or.inl ⟨by rfl, ?_⟩) ?_ ?_
                      rotate_left
                      · intro w'
                        go_simp
                        with_reducible rfl
                      rotate_left
                      · simp only [Act.put, List.setIfInBounds_toArray, List.set_cons_zero, List.set_cons_succ, i64_w, i32_w]
                        rfl
                      refine pure_ (i := 4) (N := some 40) (v := ?_) (a' := ?_) #[true, false, false, false, true, false, false, false] rfl rfl (any_of HT_.out (by kernel_rfl)) (fun _ _ _ h => h) (Or.inl ⟨by rfl, ?_⟩) ?_ ?_
                      rotate_left
                      · intro w'
                        go_simp
                        with_reducible rfl
                      rotate_left
                      · simp only [Act.put, List.setIfInBounds_toArray, List.set_cons_zero, List.set_cons_succ, i64_w, i32_w]
                        rfl
                      refine take_ (i := 1) (N := some 37) (v := ?_) (a' := ?_) #[true, true, false, false, true, false, false, false] rfl rfl (take_ofW HT_.out HW_.out (by kernel_rfl)) (fun _ _ _ h => h) (Or.inl ⟨by rfl, ?_⟩) hHeld ?_ ?_
                      rotate_left
                      · rintro w' ⟨s0, s1, s2, s3⟩
                        go_simp
                        with_reducible rfl
                      rotate_left
                      · simp only [Act.put, List.setIfInBounds_toArray, List.set_cons_zero, List.set_cons_succ, i64_w, i32_w]
                        rfl
                      refine pure_ (i := 2) (N := some 38) (v := ?_) (a' := ?_) #[true, true, true, false, true, false, false, false] rfl rfl (any_of HT_.out (by kernel_rfl)) (fun _ _ _ h => h) (Or.inl ⟨by rfl, ?_⟩) ?_ ?_
                      rotate_left
                      · intro w'
                        go_simp
                        with_reducible rfl
                      rotate_left
                      · simp only [Act.put, List.setIfInBounds_toArray, List.set_cons_zero, List.set_cons_succ, i64_w, i32_w]
                        rfl
                      refine take_ (i := 5) (N := some 41) (v := ?_) (a' := ?_) #[true, true, true, false, true, true, false, false] rfl rfl (take_ofW HT_.out HW_.out (by kernel_rfl)) (fun _ _ _ h => h) (Or.inl ⟨by rfl, ?_⟩) hHeld ?_ ?_
                      rotate_left
                      · rintro w' ⟨s0, s1, s2, s3⟩
                        go_simp
                        with_reducible rfl
                      rotate_left
                      · simp only [Act.put, List.setIfInBounds_toArray, List.set_cons_zero, List.set_cons_succ, i64_w, i32_w]
                        rfl
                      refine one_ (i := 3) (N := some 39) #[true, true, true, true, true, true, false, false] rfl rfl (one_of HT_.out (by kernel_rfl)) (by decide) (fun K hK => ?_)
                      refine goes_ Try.func32 (by kernel_rfl) rfl #[.int .i64 4, .int .i64 (wrap64 (a0_2))] (by rfl) rfl rfl (by (try simp only [List.map_toArray, List.map_cons, List.map_nil]); first | done | rfl | (simp only [List.length_drop, List.length_take]; rfl)) ?_
                      with_reducible refine (weighbridgeref04_Num.calls 4 (wrap64 (a0_2)) t262 _ A17.out).mono ?_
                      rintro e w30 ⟨rfl, hb⟩
                      refine ⟨_, rfl, ?_⟩
                      have n0_ := Aside0.mk (blk_below (g := gb259) (o := .cells #[.int .i64 a0_0, .int .i64 a0_1, .int .u32 a0_2, .string a0_3] 48 (0, 0)) (by (with_reducible repeat (first | refine blk_drewN ?_ _ | refine blk_drew ?_ | refine blk_alloc ?_ _)); exact BK259.out) hb)
                      have n1_ := Aside0.mk (below_step (by repeat (first | (with_reducible first | exact HB.out | apply below_alloc | apply pw_below_drewN | apply below_drew1 | refine below_set ?_ GE259.out) | exact HB.out)) hb)
                      clear BK259
                      clear HB
                      have BK259 := n0_
                      have HB := n1_
                      clear n0_ n1_
                      (try clear hb)
                      (try clear hb2)
                      (try clear hk)
                      (try clear hi)
                      refine hK.out _ _ ⟨(blk_cell BK259.out 0).trans rfl, (blk_cell BK259.out 1).trans rfl, (blk_cell BK259.out 2).trans rfl, (blk_cell BK259.out 3).trans rfl⟩ (fun hHeld => ?_)
                      clear hK K
                      refine norm_ (a' := ?_) ?_ ?_
                      rotate_left
                      · show Act.put _ (some 39) _ = _
                        simp only [Act.put, List.setIfInBounds_toArray, List.set_cons_zero, List.set_cons_succ, i64_w, i32_w]
                        rfl
                      refine pure_ (i := 6) (N := some 42) (v := ?_) (a' := ?_) #[true, true, true, true, true, true, true, false] rfl rfl (any_of HT_.out (by kernel_rfl)) (fun _ _ _ h => h) (Or.inl ⟨by rfl, ?_⟩) ?_ ?_
                      rotate_left
                      · intro w'
                        go_simp
                        with_reducible rfl
                      rotate_left
                      · simp only [Act.put, List.setIfInBounds_toArray, List.set_cons_zero, List.set_cons_succ, i64_w, i32_w]
                        rfl
                      refine pure_ (i := 7) (N := some 5) (v := ?_) (a' := ?_) #[true, true, true, true, true, true, true, true] rfl rfl (any_of HT_.out (by kernel_rfl)) (fun _ _ _ h => h) (Or.inl ⟨by rfl, ?_⟩) ?_ ?_
                      rotate_left
                      · intro w'
                        go_simp
                        with_reducible rfl
                      rotate_left
                      · simp only [Act.put, List.setIfInBounds_toArray, List.set_cons_zero, List.set_cons_succ, i64_w, i32_w]
                        rfl
                      refine done_ (done_of HT_.out (by kernel_rfl)) ?_
                      try go_wp2_with (first | ((with_reducible refine gate_callee (f := 37) rfl ?_); refine goesL_ (some 48) rfl rfl Try.func37 (by kernel_rfl) rfl #[.string (((t260 ++ t261) ++ (⟨#[0, 0]⟩ : ByteArray)) ++ (t262 ++ a0_3))] rfl (by (try simp only [List.map_toArray, List.map_cons, List.map_nil]); first | done | rfl | (simp only [List.length_drop, List.length_take]; rfl)) ?_; (with_reducible refine (weighbridgeref03_Check.calls (((t260 ++ t261) ++ (⟨#[0, 0]⟩ : ByteArray)) ++ (t262 ++ a0_3)) t263 _ A21.out).mono ?_); rintro e w31 ⟨rfl, hb⟩; (try clear A21); refine ⟨_, rfl, ?_⟩; have n0_ := Aside0.mk (blk_below (g := gb259) (o := .cells #[.int .i64 a0_0, .int .i64 a0_1, .int .u32 a0_2, .string a0_3] 48 (0, 0)) (by (with_reducible repeat (first | refine blk_drewN ?_ _ | refine blk_drew ?_ | refine blk_alloc ?_ _)); exact BK259.out) hb); have n1_ := Aside0.mk (below_step (by repeat (first | (with_reducible first | exact HB.out | apply below_alloc | apply pw_below_drewN | apply below_drew1 | refine below_set ?_ GE259.out) | exact HB.out)) hb); clear BK259; clear HB; have BK259 := n0_; have HB := n1_; clear n0_ n1_; (try clear hb); (try clear hb2); (try clear hk); (try clear hi)) | ((with_reducible refine gate_callee (f := 32) rfl ?_); refine goesL_ (some 50) rfl rfl Try.func32 (by kernel_rfl) rfl #[.int .i64 2, .int .i64 (wrap64 (t263))] rfl (by (try simp only [List.map_toArray, List.map_cons, List.map_nil]); first | done | rfl | (simp only [List.length_drop, List.length_take]; rfl)) ?_; (with_reducible refine (weighbridgeref04_Num.calls 2 (wrap64 (t263)) t264 _ A22.out).mono ?_); rintro e w32 ⟨rfl, hb⟩; (try clear A22); refine ⟨_, rfl, ?_⟩; have n0_ := Aside0.mk (blk_below (g := gb259) (o := .cells #[.int .i64 a0_0, .int .i64 a0_1, .int .u32 a0_2, .string a0_3] 48 (0, 0)) (by (with_reducible repeat (first | refine blk_drewN ?_ _ | refine blk_drew ?_ | refine blk_alloc ?_ _)); exact BK259.out) hb); have n1_ := Aside0.mk (below_step (by repeat (first | (with_reducible first | exact HB.out | apply below_alloc | apply pw_below_drewN | apply below_drew1 | refine below_set ?_ GE259.out) | exact HB.out)) hb); clear BK259; clear HB; have BK259 := n0_; have HB := n1_; clear n0_ n1_; (try clear hb); (try clear hb2); (try clear hk); (try clear hi)))
                      go_ret2
                      exact ⟨by first | rfl | (simp [errW_none, errW_some] <;> rfl) | (simp [*, errW_none, errW_some] <;> rfl), by repeat (first | (with_reducible first | exact HB.out | apply below_alloc | apply pw_below_drewN | apply below_drew1 | refine below_set ?_ GE259.out) | exact HB.out)⟩
                    · rw [if_neg c24] at H
                      exact absurd H (by simp)
                  · rw [if_neg c23] at H
                    exact absurd H (by simp)
                · rw [if_neg c20] at H
                  exact absurd H (by simp)
              · rw [if_neg c19] at H
                exact absurd H (by simp)
            · rw [if_neg c18] at H
              exact absurd H (by simp)
          · rw [if_neg c16] at H
            exact absurd H (by simp)

theorem r7_wrap {n : Int} (h0 : -9223372036854775808 ≤ n) (h1 : n ≤ 9223372036854775807) : wrap64 n = n := by unfold wrap64; omega
def weighbridgeref07_Build.f (a0_0 a0_1 a0_2 : Int) (a0_3 : ByteArray) : Option (ByteArray × Int) := if 0 ≤ a0_2 ∧ a0_2 ≤ 4294967295 ∧ a0_3.size ≤ 140737488355328 then some (lb (Sp.icmpBuild a0_0 a0_1 a0_2 (bl a0_3)).1, (Sp.icmpBuild a0_0 a0_1 a0_2 (bl a0_3)).2) else none
theorem weighbridgeref07_Build_eq {a0_0 a0_1 a0_2 : Int} {a0_3 : ByteArray} (h0 : 0 ≤ a0_2 ∧ a0_2 ≤ 4294967295) (h1 : a0_3.size ≤ 140737488355328) : weighbridgeref07_Build.f a0_0 a0_1 a0_2 a0_3 = some (lb (Sp.icmpBuild a0_0 a0_1 a0_2 (bl a0_3)).1, (Sp.icmpBuild a0_0 a0_1 a0_2 (bl a0_3)).2) := by
  unfold weighbridgeref07_Build.f; exact if_pos ⟨h0.1, h0.2, h1⟩
theorem ref07_Build_no (a b c : Int) (s : ByteArray) (h : ¬ (Sp.fits 1 a = true ∧ Sp.fits 1 b = true)) : weighbridgeref07_Build_p.f 1 a b c s = some (lb [], 1) := by
  rw [Sp.fits1, Sp.fits1] at h
  unfold weighbridgeref07_Build_p.f
  simp only [weighbridgeref07_Build_p.j0]
  by_cases h1 : a < 0
  · rw [if_pos h1, if_pos trivial]; rfl
  · rw [if_neg h1]
    by_cases h2 : a > 255
    · rw [if_pos h2, if_pos trivial]; rfl
    · rw [if_neg h2]
      by_cases h3 : b < 0
      · rw [if_pos h3, if_pos trivial]; rfl
      · rw [if_neg h3, if_pos (decide_eq_true (by omega))]; rfl
theorem ref07_Build_yes (a b c : Int) (s : ByteArray) (ha : Sp.fits 1 a = true) (hb : Sp.fits 1 b = true) (hc : 0 ≤ c ∧ c ≤ 4294967295) (hs : s.size ≤ 140737488355328) :
    weighbridgeref07_Build_p.f 1 a b c s = some (lb (Sp.icmpBuild a b c (bl s)).1, (Sp.icmpBuild a b c (bl s)).2) := by
  have f := And.intro ha hb
  have h1 := Sp.fits1.1 ha
  have h2 := Sp.fits1.1 hb
  unfold weighbridgeref07_Build_p.f Sp.icmpBuild
  rw [if_neg (by omega), if_neg (by omega), if_neg (by omega), decide_eq_false (by omega), if_pos f, bl_length]
  simp only [weighbridgeref07_Build_p.j0]
  rw [if_neg (by decide), r7_wrap (n := 8 + (s.size : Int)) (by omega) (by omega)]
  by_cases hz : 8 + (s.size : Int) > 1500
  · rw [if_pos hz, if_pos hz]; rfl
  · have f4 : Sp.fits 4 c = true := Sp.fits_iff.2 ⟨by decide, by decide, hc.1, by show c < 256 ^ 4; omega⟩
    have hk := Sp.check_bounds (Sp.icmpBytes a b c (bl s) 0).1
    have hw : Sp.beBytes (1 : Int).toNat a ++ Sp.beBytes (1 : Int).toNat b ++ [0, 0] ++ (Sp.beBytes (4 : Int).toNat c ++ bl s) = (Sp.icmpBytes a b c (bl s) 0).1 := by
      rw [Sp.icmpBytes_yes f]; rw [← List.append_assoc]; rfl
    have l1 : ∀ x, (Sp.beBytes (1 : Int).toNat x).length = 1 := fun x => by rw [Sp.beBytes_length]; rfl
    have l2 : ∀ x, (Sp.beBytes (2 : Int).toNat x).length = 2 := fun x => by rw [Sp.beBytes_length]; rfl
    have l4 : ∀ x, (Sp.beBytes (4 : Int).toNat x).length = 4 := fun x => by rw [Sp.beBytes_length]; rfl
    rw [if_neg hz, if_neg hz, weighbridgeref04_Num_yes ha, Option.bind_some, weighbridgeref04_Num_yes hb, Option.bind_some, r7_wrap (n := c) (by omega) (by omega), weighbridgeref04_Num_yes f4]
    rw [show (⟨#[0, 0]⟩ : ByteArray) = lb [0, 0] from rfl, ← Sp.lb_bl s]
    simp only [Sp.bl_lb]
    rw [Sp.lb_append, if_pos (by rw [lb_size, lb_size, l1, l1]; decide), Option.bind_some, if_pos (by rw [lb_size, lb_size, bl_length, l4]; omega), if_pos (by rw [lb_size, List.length_append, l1, l1]; decide), Sp.lb_append, Sp.lb_append,
      if_pos (by rw [lb_size, lb_size, List.length_append, List.length_append, List.length_append, bl_length, l1, l1, l4]; simp; omega), Sp.lb_append, hw,
      weighbridgeref03_Check_eq (by rw [lb_size, Sp.icmpBytes_length f, bl_length]; omega), Option.bind_some, bl_lb, r7_wrap (by omega) (by omega), weighbridgeref04_Num_yes (Sp.fits2.2 hk), Option.bind_some,
      if_pos (by rw [lb_size, lb_size, List.length_append, l1, l1, l2]; decide), Sp.lb_append, if_pos (by rw [lb_size, lb_size, List.length_append, List.length_append, List.length_append, bl_length, l1, l1, l2, l4]; omega), Sp.lb_append]
    generalize Sp.check (Sp.icmpBytes a b c (bl s) 0).1 = ck
    rw [Sp.icmpBytes_yes f, ← List.append_assoc]; rfl
theorem weighbridgeref07_Build_ev (a0_0 a0_1 a0_2 : Int) (a0_3 : ByteArray) (r : ByteArray × Int) (h : weighbridgeref07_Build.f a0_0 a0_1 a0_2 a0_3 = some r) : ∃ k, weighbridgeref07_Build_p.f k a0_0 a0_1 a0_2 a0_3 = some r := by
  unfold weighbridgeref07_Build.f at h
  split at h
  case isFalse => cases h
  case isTrue hs =>
    rw [← h]
    refine ⟨1, ?_⟩
    by_cases hf : Sp.fits 1 a0_0 = true ∧ Sp.fits 1 a0_1 = true
    · exact ref07_Build_yes a0_0 a0_1 a0_2 a0_3 hf.1 hf.2 ⟨hs.1, hs.2.1⟩ hs.2.2
    · rw [ref07_Build_no _ _ _ _ hf]
      unfold Sp.icmpBuild
      rw [if_neg hf]

theorem weighbridgeref07_Build.calls (a0_0 : Int) (a0_1 : Int) (a0_2 : Int) (a0_3 : ByteArray) (r1 : ByteArray) (r2 : Int) (w : World) (h : weighbridgeref07_Build.f a0_0 a0_1 a0_2 a0_3 = some (r1, r2)) :
    Calls Try.prog 23 #[.agg #[.int .i64 a0_0, .int .i64 a0_1, .int .u32 a0_2, .string a0_3]] w fun e w' => e = .returned (.tuple #[.string r1, .int .i64 r2]) ∧ Below w.heap.size w w' := by
  obtain ⟨k, hk⟩ := weighbridgeref07_Build_ev a0_0 a0_1 a0_2 a0_3 _ h
  exact weighbridgeref07_Build_p.calls k a0_0 a0_1 a0_2 a0_3 r1 r2 w hk

/-! ### weighbridgeref07_MTU: function 26 -/
def weighbridgeref07_MTU.f (a0_0 : Int) (a0_1 : Int) (a0_2 : Int) (a0_3 : ByteArray) : Option (Int × Bool) := if a0_0 = 3 then (if a0_1 = 4 then (some (wrap64 (Int.tmod a0_2 65536), true)) else (some (0, false))) else (some (0, false))
set_option maxHeartbeats 8000000 in
set_option maxRecDepth 100000 in
theorem weighbridgeref07_MTU.calls (a0_0 : Int) (a0_1 : Int) (a0_2 : Int) (a0_3 : ByteArray) (r1 : Int) (r2 : Bool) (w : World) (h : weighbridgeref07_MTU.f a0_0 a0_1 a0_2 a0_3 = some (r1, r2)) :
    Calls Try.prog 26 #[.agg #[.int .i64 a0_0, .int .i64 a0_1, .int .u32 a0_2, .string a0_3]] w fun e w' => e = .returned (.tuple #[.int .i64 r1, .bool r2]) ∧ Below w.heap.size w w' := by
  have hu48 := Try.underlying48
  have HB := Aside0.mk (Below.refl w.heap.size w)
  have H : (if a0_0 = 3 then (if a0_1 = 4 then (some (wrap64 (Int.tmod a0_2 65536), true)) else (some (0, false))) else (some (0, false))) = some (r1, r2) := h
  clear h
  by_cases c2 : a0_0 = 3
  · rw [if_pos c2] at H
    have c2b0 : (a0_0 == 3) = true := beq_iff_eq.mpr c2
    have c2b1 : (a0_0 != 3) = false := bne_eq_false_iff_eq.mpr c2
    clear c2
    by_cases c3 : a0_1 = 4
    · rw [if_pos c3] at H
      have c3b0 : (a0_1 == 4) = true := beq_iff_eq.mpr c3
      have c3b1 : (a0_1 != 4) = false := bne_eq_false_iff_eq.mpr c3
      clear c3
      simp only [Option.some.injEq, Prod.mk.injEq] at H
      obtain ⟨rfl, rfl⟩ := H
      go_enter Try.func26, Try.ntmps26
      go_wp2_with (first | ((with_reducible refine gate_dst (N := 1) rfl ?_); refine box_event ?hg (N := 1) ?hd (cs := #[.int .i64 a0_0, .int .i64 a0_1, .int .u32 a0_2, .string a0_3]) (t := 48) ?hr ?_; (case hd => rfl); (case hg => rfl); (case hr => first | (go_simp; done) | (go_simp; rfl)); intro gb267 hg w4 hbox hb; have n0_ := Aside0.mk (below_step (by repeat (first | (with_reducible first | exact HB.out | apply below_alloc | apply pw_below_drewN | apply below_drew1) | exact HB.out)) hb); have n1_ := Aside0.mk (hbox); have n2_ := Aside0.mk ((by rw [hg]; exact (below_size (by repeat (first | (with_reducible first | exact HB.out | apply below_alloc | apply pw_below_drewN | apply below_drew1) | exact HB.out))) : w.heap.size ≤ gb267)); have n3_ := Aside0.mk ((by rw [hg]; exact (below_size (by repeat (first | (with_reducible first | exact HB.out | apply below_alloc | apply pw_below_drewN | apply below_drew1) | exact HB.out))) : w.heap.size ≤ gb267)); clear HB; have HB := n0_; have BK267 := n1_; have GW267 := n2_; have GE267 := n3_; clear n0_ n1_ n2_ n3_; clear hb hbox hg; have hcz5_0 : w4.cell? ⟨gb267, 0, none⟩ = some (.int .i64 a0_0) := (blk_cell BK267.out 0).trans rfl; have hcz5_1 : w4.cell? ⟨gb267, 1, none⟩ = some (.int .i64 a0_1) := (blk_cell BK267.out 1).trans rfl; have hcz5_2 : w4.cell? ⟨gb267, 2, none⟩ = some (.int .u32 a0_2) := (blk_cell BK267.out 2).trans rfl; have hcz5_3 : w4.cell? ⟨gb267, 3, none⟩ = some (.string a0_3) := (blk_cell BK267.out 3).trans rfl; have hfz5_0 := blk_frozen BK267.out 0; have hfz5_1 := blk_frozen BK267.out 1; have hfz5_2 := blk_frozen BK267.out 2; have hfz5_3 := blk_frozen BK267.out 3))
      go_ret2
      exact ⟨by first | rfl | (simp [errW_none, errW_some] <;> rfl) | (simp [*, errW_none, errW_some] <;> rfl), by repeat (first | (with_reducible first | exact HB.out | apply below_alloc | apply pw_below_drewN | apply below_drew1 | refine below_set ?_ GE267.out) | exact HB.out)⟩
    · rw [if_neg c3] at H
      have c3b0 : (a0_1 == 4) = false := beq_eq_false_iff_ne.mpr c3
      have c3b1 : (a0_1 != 4) = true := bne_iff_ne.mpr c3
      simp only [Option.some.injEq, Prod.mk.injEq] at H
      obtain ⟨rfl, rfl⟩ := H
      go_enter Try.func26, Try.ntmps26
      go_wp2_with (first | ((with_reducible refine gate_dst (N := 1) rfl ?_); refine box_event ?hg (N := 1) ?hd (cs := #[.int .i64 a0_0, .int .i64 a0_1, .int .u32 a0_2, .string a0_3]) (t := 48) ?hr ?_; (case hd => rfl); (case hg => rfl); (case hr => first | (go_simp; done) | (go_simp; rfl)); intro gb267 hg w6 hbox hb; have n0_ := Aside0.mk (below_step (by repeat (first | (with_reducible first | exact HB.out | apply below_alloc | apply pw_below_drewN | apply below_drew1) | exact HB.out)) hb); have n1_ := Aside0.mk (hbox); have n2_ := Aside0.mk ((by rw [hg]; exact (below_size (by repeat (first | (with_reducible first | exact HB.out | apply below_alloc | apply pw_below_drewN | apply below_drew1) | exact HB.out))) : w.heap.size ≤ gb267)); have n3_ := Aside0.mk ((by rw [hg]; exact (below_size (by repeat (first | (with_reducible first | exact HB.out | apply below_alloc | apply pw_below_drewN | apply below_drew1) | exact HB.out))) : w.heap.size ≤ gb267)); clear HB; have HB := n0_; have BK267 := n1_; have GW267 := n2_; have GE267 := n3_; clear n0_ n1_ n2_ n3_; clear hb hbox hg; have hcz7_0 : w6.cell? ⟨gb267, 0, none⟩ = some (.int .i64 a0_0) := (blk_cell BK267.out 0).trans rfl; have hcz7_1 : w6.cell? ⟨gb267, 1, none⟩ = some (.int .i64 a0_1) := (blk_cell BK267.out 1).trans rfl; have hcz7_2 : w6.cell? ⟨gb267, 2, none⟩ = some (.int .u32 a0_2) := (blk_cell BK267.out 2).trans rfl; have hcz7_3 : w6.cell? ⟨gb267, 3, none⟩ = some (.string a0_3) := (blk_cell BK267.out 3).trans rfl; have hfz7_0 := blk_frozen BK267.out 0; have hfz7_1 := blk_frozen BK267.out 1; have hfz7_2 := blk_frozen BK267.out 2; have hfz7_3 := blk_frozen BK267.out 3))
      go_ret2
      exact ⟨by first | rfl | (simp [errW_none, errW_some] <;> rfl) | (simp [*, errW_none, errW_some] <;> rfl), by repeat (first | (with_reducible first | exact HB.out | apply below_alloc | apply pw_below_drewN | apply below_drew1 | refine below_set ?_ GE267.out) | exact HB.out)⟩
  · rw [if_neg c2] at H
    have c2b0 : (a0_0 == 3) = false := beq_eq_false_iff_ne.mpr c2
    have c2b1 : (a0_0 != 3) = true := bne_iff_ne.mpr c2
    simp only [Option.some.injEq, Prod.mk.injEq] at H
    obtain ⟨rfl, rfl⟩ := H
    go_enter Try.func26, Try.ntmps26
    go_wp2_with (first | ((with_reducible refine gate_dst (N := 1) rfl ?_); refine box_event ?hg (N := 1) ?hd (cs := #[.int .i64 a0_0, .int .i64 a0_1, .int .u32 a0_2, .string a0_3]) (t := 48) ?hr ?_; (case hd => rfl); (case hg => rfl); (case hr => first | (go_simp; done) | (go_simp; rfl)); intro gb267 hg w8 hbox hb; have n0_ := Aside0.mk (below_step (by repeat (first | (with_reducible first | exact HB.out | apply below_alloc | apply pw_below_drewN | apply below_drew1) | exact HB.out)) hb); have n1_ := Aside0.mk (hbox); have n2_ := Aside0.mk ((by rw [hg]; exact (below_size (by repeat (first | (with_reducible first | exact HB.out | apply below_alloc | apply pw_below_drewN | apply below_drew1) | exact HB.out))) : w.heap.size ≤ gb267)); have n3_ := Aside0.mk ((by rw [hg]; exact (below_size (by repeat (first | (with_reducible first | exact HB.out | apply below_alloc | apply pw_below_drewN | apply below_drew1) | exact HB.out))) : w.heap.size ≤ gb267)); clear HB; have HB := n0_; have BK267 := n1_; have GW267 := n2_; have GE267 := n3_; clear n0_ n1_ n2_ n3_; clear hb hbox hg; have hcz9_0 : w8.cell? ⟨gb267, 0, none⟩ = some (.int .i64 a0_0) := (blk_cell BK267.out 0).trans rfl; have hcz9_1 : w8.cell? ⟨gb267, 1, none⟩ = some (.int .i64 a0_1) := (blk_cell BK267.out 1).trans rfl; have hcz9_2 : w8.cell? ⟨gb267, 2, none⟩ = some (.int .u32 a0_2) := (blk_cell BK267.out 2).trans rfl; have hcz9_3 : w8.cell? ⟨gb267, 3, none⟩ = some (.string a0_3) := (blk_cell BK267.out 3).trans rfl; have hfz9_0 := blk_frozen BK267.out 0; have hfz9_1 := blk_frozen BK267.out 1; have hfz9_2 := blk_frozen BK267.out 2; have hfz9_3 := blk_frozen BK267.out 3))
    go_ret2
    exact ⟨by first | rfl | (simp [errW_none, errW_some] <;> rfl) | (simp [*, errW_none, errW_some] <;> rfl), by repeat (first | (with_reducible first | exact HB.out | apply below_alloc | apply pw_below_drewN | apply below_drew1 | refine below_set ?_ GE267.out) | exact HB.out)⟩

/-! ### weighbridgeref07_Error: function 28 -/
def weighbridgeref07_Error.f (a0 : Int) : Option (Bool) := if a0 = 3 then (some true) else (if a0 = 11 then (some true) else (some (a0 == 12)))
set_option maxHeartbeats 8000000 in
set_option maxRecDepth 100000 in
theorem weighbridgeref07_Error.calls (a0 : Int) (r : Bool) (w : World) (h : weighbridgeref07_Error.f a0 = some r) :
    Calls Try.prog 28 #[.int .i64 a0] w fun e w' => e = .returned (.bool r) ∧ Drawn0 w w' := by
  have H : (if a0 = 3 then (some true) else (if a0 = 11 then (some true) else (some (a0 == 12)))) = some r := h
  clear h
  by_cases c2 : a0 = 3
  · rw [if_pos c2] at H
    have c2b0 : (a0 == 3) = true := beq_iff_eq.mpr c2
    have c2b1 : (a0 != 3) = false := bne_eq_false_iff_eq.mpr c2
    clear c2
    obtain rfl := Option.some.inj H
    go_enter Try.func28, Try.ntmps28
    go_wp2
    go_ret
    exact ⟨by first | rfl | (simp; done) | (simp [*]; done), by repeat (first | exact Drawn0.refl _ | apply Drawn0.step)⟩
  · rw [if_neg c2] at H
    have c2b0 : (a0 == 3) = false := beq_eq_false_iff_ne.mpr c2
    have c2b1 : (a0 != 3) = true := bne_iff_ne.mpr c2
    by_cases c3 : a0 = 11
    · rw [if_pos c3] at H
      have c3b0 : (a0 == 11) = true := beq_iff_eq.mpr c3
      have c3b1 : (a0 != 11) = false := bne_eq_false_iff_eq.mpr c3
      clear c3
      obtain rfl := Option.some.inj H
      go_enter Try.func28, Try.ntmps28
      go_wp2
      go_ret
      exact ⟨by first | rfl | (simp; done) | (simp [*]; done), by repeat (first | exact Drawn0.refl _ | apply Drawn0.step)⟩
    · rw [if_neg c3] at H
      have c3b0 : (a0 == 11) = false := beq_eq_false_iff_ne.mpr c3
      have c3b1 : (a0 != 11) = true := bne_iff_ne.mpr c3
      obtain rfl := Option.some.inj H
      go_enter Try.func28, Try.ntmps28
      go_wp2
      go_ret
      exact ⟨by first | rfl | (simp; done) | (simp [*]; done), by repeat (first | exact Drawn0.refl _ | apply Drawn0.step)⟩

/-! ### weighbridgeref07_Parse: function 30 -/
def weighbridgeref07_Parse.f (a0 : ByteArray) : Option (Int × Int × Int × ByteArray × Int) := if (a0.size : Int) < 8 then (some (0, 0, 0, (⟨#[]⟩ : ByteArray), 2)) else ((weighbridgeref03_Sum.f a0).bind fun t289 => (if t289 = 65535 then ((weighbridgeref01_Get.f a0 4 4).bind fun bt290 => (if 0 < (a0.size : Int) then (if 1 < (a0.size : Int) then (if 8 ≤ (a0.size : Int) then (some (wrap64 (bt a0 0), wrap64 (bt a0 1), (bt290.1) % 4294967296, a0.extract 8 a0.size, 0)) else (none)) else (none)) else (none))) else (some (0, 0, 0, (⟨#[]⟩ : ByteArray), 7))))
def weighbridgeref07_Parse.T6 : Bool × List (List Nat × List Nat) := (true, [([], []), ([0], [0]), ([1], [1]), ([], []), ([3], [3]), ([4], [4]), ([], []), ([6], [6]), ([], []), ([8], [8]), ([2, 5, 7, 9], [2, 5, 7, 9]), ([10, 0, 1, 2, 3, 4, 5, 6, 7, 8, 9, 10], [10]), ([11, 0, 1, 2, 3, 4, 5, 6, 7, 8, 9, 10, 11], [])])
def weighbridgeref07_Parse.B6 : List Nat := [0, 1, 3, 0, 8, 24, 0, 64, 0, 256, 1023, 2047, 4095]
theorem weighbridgeref07_Parse.tab6 : rtab .any (opsOf Try.f30 6) = weighbridgeref07_Parse.T6 := by kernel_rfl
theorem weighbridgeref07_Parse.bits6 : waitsOk weighbridgeref07_Parse.T6.2 weighbridgeref07_Parse.B6 = true := by kernel_rfl
set_option maxHeartbeats 8000000 in
set_option maxRecDepth 100000 in
theorem weighbridgeref07_Parse.calls (a0 : ByteArray) (r1 : Int) (r2 : Int) (r3 : Int) (r4 : ByteArray) (r5 : Int) (w : World) (h : weighbridgeref07_Parse.f a0 = some (r1, r2, r3, r4, r5)) :
    Calls Try.prog 30 #[.string a0] w fun e w' => e = .returned (.tuple #[.agg #[.int .i64 r1, .int .i64 r2, .int .u32 r3, .string r4], .int .i64 r5]) ∧ Below w.heap.size w w' := by
  have hu48 := Try.underlying48
  have HB := Aside0.mk (Below.refl w.heap.size w)
  have H : (if (a0.size : Int) < 8 then (some (0, 0, 0, (⟨#[]⟩ : ByteArray), 2)) else ((weighbridgeref03_Sum.f a0).bind fun t289 => (if t289 = 65535 then ((weighbridgeref01_Get.f a0 4 4).bind fun bt290 => (if 0 < (a0.size : Int) then (if 1 < (a0.size : Int) then (if 8 ≤ (a0.size : Int) then (some (wrap64 (bt a0 0), wrap64 (bt a0 1), (bt290.1) % 4294967296, a0.extract 8 a0.size, 0)) else (none)) else (none)) else (none))) else (some (0, 0, 0, (⟨#[]⟩ : ByteArray), 7))))) = some (r1, r2, r3, r4, r5) := h
  clear h
  by_cases c2 : (a0.size : Int) < 8
  · rw [if_pos c2] at H
    have c2b0 : decide ((a0.size : Int) < 8) = true := decide_eq_true c2
    have c2b1 : decide (a0.size < 8) = true := decide_eq_true (by omega)
    clear c2
    simp only [Option.some.injEq, Prod.mk.injEq] at H
    obtain ⟨rfl, rfl, rfl, rfl, rfl⟩ := H
    go_enter Try.func30, Try.ntmps30
    go_wp2_with (first | ((with_reducible refine gate_dst (N := 2) rfl ?_); refine box_event ?hg (N := 2) ?hd (cs := #[.int .i64 0, .int .i64 0, .int .u32 0, .string (⟨#[]⟩ : ByteArray)]) (t := 48) ?hr ?_; (case hd => rfl); (case hg => rfl); (case hr => first | (go_simp; done) | (go_simp; rfl)); intro gb288 hg w3 hbox hb; have n0_ := Aside0.mk (below_step (by repeat (first | (with_reducible first | exact HB.out | apply below_alloc | apply pw_below_drewN | apply below_drew1) | exact HB.out)) hb); have n1_ := Aside0.mk (hbox); have n2_ := Aside0.mk ((by rw [hg]; exact (below_size (by repeat (first | (with_reducible first | exact HB.out | apply below_alloc | apply pw_below_drewN | apply below_drew1) | exact HB.out))) : w.heap.size ≤ gb288)); have n3_ := Aside0.mk ((by rw [hg]; exact (below_size (by repeat (first | (with_reducible first | exact HB.out | apply below_alloc | apply pw_below_drewN | apply below_drew1) | exact HB.out))) : w.heap.size ≤ gb288)); clear HB; have HB := n0_; have BK288 := n1_; have GW288 := n2_; have GE288 := n3_; clear n0_ n1_ n2_ n3_; clear hb hbox hg; have hcz4_0 : w3.cell? ⟨gb288, 0, none⟩ = some (.int .i64 0) := (blk_cell BK288.out 0).trans rfl; have hcz4_1 : w3.cell? ⟨gb288, 1, none⟩ = some (.int .i64 0) := (blk_cell BK288.out 1).trans rfl; have hcz4_2 : w3.cell? ⟨gb288, 2, none⟩ = some (.int .u32 0) := (blk_cell BK288.out 2).trans rfl; have hcz4_3 : w3.cell? ⟨gb288, 3, none⟩ = some (.string (⟨#[]⟩ : ByteArray)) := (blk_cell BK288.out 3).trans rfl; have hfz4_0 := blk_frozen BK288.out 0; have hfz4_1 := blk_frozen BK288.out 1; have hfz4_2 := blk_frozen BK288.out 2; have hfz4_3 := blk_frozen BK288.out 3))
    refine bodyPost_ret (results_ct rfl _ _ gb288 48 #[.int .i64 0, .int .i64 0, .int .u32 0, .string (⟨#[]⟩ : ByteArray)] (0, 0) _ rfl (by (with_reducible repeat (first | refine blk_drewN ?_ _ | refine blk_drew ?_ | refine blk_alloc ?_ _)); refine blk_put (cs := #[.int .i64 0, .int .i64 0, .int .u32 0, .string (⟨#[]⟩ : ByteArray)]) ?_ 3 _ rfl; (with_reducible repeat (first | refine blk_drewN ?_ _ | refine blk_drew ?_ | refine blk_alloc ?_ _)); refine blk_put (cs := #[.int .i64 0, .int .i64 0, .int .u32 0, .string (⟨#[]⟩ : ByteArray)]) ?_ 2 _ rfl; (with_reducible repeat (first | refine blk_drewN ?_ _ | refine blk_drew ?_ | refine blk_alloc ?_ _)); refine blk_put (cs := #[.int .i64 0, .int .i64 0, .int .u32 0, .string (⟨#[]⟩ : ByteArray)]) ?_ 1 _ rfl; (with_reducible repeat (first | refine blk_drewN ?_ _ | refine blk_drew ?_ | refine blk_alloc ?_ _)); refine blk_put (cs := #[.int .i64 0, .int .i64 0, .int .u32 0, .string (⟨#[]⟩ : ByteArray)]) ?_ 0 _ rfl; (with_reducible repeat (first | refine blk_drewN ?_ _ | refine blk_drew ?_ | refine blk_alloc ?_ _)); exact BK288.out) Try.underlying48 rfl (by kernel_rfl)) rfl ?_
    exact ⟨by first | rfl | (simp [errW_none, errW_some] <;> rfl) | (simp [*, errW_none, errW_some] <;> rfl), by repeat (first | (with_reducible first | exact HB.out | apply below_alloc | apply pw_below_drewN | apply below_drew1 | refine below_set ?_ GE288.out) | exact HB.out)⟩
  · rw [if_neg c2] at H
    have c2b0 : decide ((a0.size : Int) < 8) = false := decide_eq_false c2
    have c2b1 : decide (a0.size < 8) = false := decide_eq_false (by omega)
    clear c2
    replace H := Option.bind_eq_some_iff.mp H
    obtain ⟨t289, A50, H⟩ := H
    replace H : (if t289 = 65535 then ((weighbridgeref01_Get.f a0 4 4).bind fun bt290 => (if 0 < (a0.size : Int) then (if 1 < (a0.size : Int) then (if 8 ≤ (a0.size : Int) then (some (wrap64 (bt a0 0), wrap64 (bt a0 1), (bt290.1) % 4294967296, a0.extract 8 a0.size, 0)) else (none)) else (none)) else (none))) else (some (0, 0, 0, (⟨#[]⟩ : ByteArray), 7))) = some (r1, r2, r3, r4, r5) := H
    have A5 := Aside0.mk A50
    clear A50
    by_cases c6 : t289 = 65535
    · rw [if_pos c6] at H
      have c6b0 : (t289 == 65535) = true := beq_iff_eq.mpr c6
      have c6b1 : (t289 != 65535) = false := bne_eq_false_iff_eq.mpr c6
      clear c6
      replace H := Option.bind_eq_some_iff.mp H
      obtain ⟨⟨t290, t291⟩, A70, H⟩ := H
      replace H : (if 0 < (a0.size : Int) then (if 1 < (a0.size : Int) then (if 8 ≤ (a0.size : Int) then (some (wrap64 (bt a0 0), wrap64 (bt a0 1), (t290) % 4294967296, a0.extract 8 a0.size, 0)) else (none)) else (none)) else (none)) = some (r1, r2, r3, r4, r5) := H
      have A7 := Aside0.mk A70
      clear A70
      by_cases c8 : 0 < (a0.size : Int)
      · rw [if_pos c8] at H
        have c8b0 : decide (0 < (a0.size : Int)) = true := decide_eq_true c8
        have c8b1 : decide (0 < a0.size) = true := decide_eq_true (by omega)
        clear c8
        by_cases c10 : 1 < (a0.size : Int)
        · rw [if_pos c10] at H
          have c10b0 : decide (1 < (a0.size : Int)) = true := decide_eq_true c10
          have c10b1 : decide (1 < a0.size) = true := decide_eq_true (by omega)
          clear c10
          by_cases c12 : 8 ≤ (a0.size : Int)
          · rw [if_pos c12] at H
            have c12b0 := eq_true c12
            have c12b1 : decide (8 ≤ (a0.size : Int)) = true := decide_eq_true c12
            clear c12
            simp only [Option.some.injEq, Prod.mk.injEq] at H
            obtain ⟨rfl, rfl, rfl, rfl, rfl⟩ := H
            go_enter Try.func30, Try.ntmps30
            try go_wp2_with (first | ((with_reducible refine gate_dst (N := 2) rfl ?_); refine box_event ?hg (N := 2) ?hd (cs := #[.int .i64 0, .int .i64 0, .int .u32 0, .string (⟨#[]⟩ : ByteArray)]) (t := 48) ?hr ?_; (case hd => rfl); (case hg => rfl); (case hr => first | (go_simp; done) | (go_simp; rfl)); intro gb288 hg w13 hbox hb; have n0_ := Aside0.mk (below_step (by repeat (first | (with_reducible first | exact HB.out | apply below_alloc | apply pw_below_drewN | apply below_drew1) | exact HB.out)) hb); have n1_ := Aside0.mk (hbox); have n2_ := Aside0.mk ((by rw [hg]; exact (below_size (by repeat (first | (with_reducible first | exact HB.out | apply below_alloc | apply pw_below_drewN | apply below_drew1) | exact HB.out))) : w.heap.size ≤ gb288)); have n3_ := Aside0.mk ((by rw [hg]; exact (below_size (by repeat (first | (with_reducible first | exact HB.out | apply below_alloc | apply pw_below_drewN | apply below_drew1) | exact HB.out))) : w.heap.size ≤ gb288)); clear HB; have HB := n0_; have BK288 := n1_; have GW288 := n2_; have GE288 := n3_; clear n0_ n1_ n2_ n3_; clear hb hbox hg) | ((with_reducible refine gate_callee (f := 39) rfl ?_); refine goesL_ (some 11) rfl rfl Try.func39 (by kernel_rfl) rfl #[.string a0] rfl (by (try simp only [List.map_toArray, List.map_cons, List.map_nil]); first | done | rfl | (simp only [List.length_drop, List.length_take]; rfl)) ?_; (with_reducible refine (weighbridgeref03_Sum.calls a0 t289 _ A5.out).mono ?_); rintro e w14 ⟨rfl, hb⟩; (try clear A5); refine ⟨_, rfl, ?_⟩; have n0_ := Aside0.mk (blk_below (g := gb288) (o := .cells #[.int .i64 0, .int .i64 0, .int .u32 0, .string (⟨#[]⟩ : ByteArray)] 48 (0, 0)) (by (with_reducible repeat (first | refine blk_drewN ?_ _ | refine blk_drew ?_ | refine blk_alloc ?_ _)); exact BK288.out) hb); have n1_ := Aside0.mk (below_step (by repeat (first | (with_reducible first | exact HB.out | apply below_alloc | apply pw_below_drewN | apply below_drew1 | refine below_set ?_ GE288.out) | exact HB.out)) hb); clear BK288; clear HB; have BK288 := n0_; have HB := n1_; clear n0_ n1_; (try clear hb); (try clear hb2); (try clear hk); (try clear hi)) | ((with_reducible refine gate_callee (f := 34) rfl ?_); refine goesL_ (some 16) rfl rfl Try.func34 (by kernel_rfl) rfl #[.string a0, .int .i64 4, .int .i64 4] rfl (by (try simp only [List.map_toArray, List.map_cons, List.map_nil]); first | done | rfl | (simp only [List.length_drop, List.length_take]; rfl)) ?_; (with_reducible refine (weighbridgeref01_Get.calls a0 4 4 t290 t291 _ A7.out).mono ?_); rintro e w' ⟨rfl, ⟨nd, rfl⟩⟩; refine ⟨_, rfl, ?_⟩; (try (rw [drewN_self w14]; generalize hq_ : World.drewN w14 _ = w14; have n0_ : Aside0 (w14.heap[gb288]? = some (.cells #[.int .i64 0, .int .i64 0, .int .u32 0, .string (⟨#[]⟩ : ByteArray)] 48 (0, 0))) := ⟨by rw [← hq_]; exact (by (with_reducible repeat (first | refine blk_drewN ?_ _ | refine blk_drew ?_ | refine blk_alloc ?_ _)); exact BK288.out)⟩; have n1_ : Aside0 (Below w.heap.size w w14) := ⟨by rw [← hq_]; exact (by repeat (first | (with_reducible first | exact HB.out | apply below_alloc | apply pw_below_drewN | apply below_drew1 | refine below_set ?_ GE288.out) | exact HB.out))⟩; clear BK288 HB hq_; have BK288 := n0_; have HB := n1_; clear n0_ n1_))))
            have n0_ := Aside0.mk (blk_drew BK288.out)
            have n1_ := Aside0.mk (below_drew1 HB.out)
            clear BK288
            clear HB
            have BK288 := n0_
            have HB := n1_
            clear n0_ n1_
            have p9 : 0 ≤ (0 : Int) := (by omega)
            have q9 : 0 < a0.size := (by have : (0 : Int) < (a0.size : Int) := of_decide_eq_true (by first | (with_reducible assumption) | assumption); omega)
            have hx9 : ∀ h : 0 < a0.size, ((a0[0]'h).toNat : Int) = bt a0 0 := bt_at a0 0
            clear p9
            have qi9 : (0 < (a0.size : Int)) = True := eq_true (of_decide_eq_true (by first | (with_reducible assumption) | assumption))
            replace q9 := eq_true q9
            have p11 : 0 ≤ (1 : Int) := (by omega)
            have q11 : 1 < a0.size := (by have : (1 : Int) < (a0.size : Int) := of_decide_eq_true (by first | (with_reducible assumption) | assumption); omega)
            have hx11 : ∀ h : 1 < a0.size, ((a0[1]'h).toNat : Int) = bt a0 1 := bt_at a0 1
            clear p11
            have qi11 : (1 < (a0.size : Int)) = True := eq_true (of_decide_eq_true (by first | (with_reducible assumption) | assumption))
            replace q11 := eq_true q11
            refine start_ (n := 13) (S := fun w' => True) (ds := []) #[false, false, false, false, false, false, false, false, false, false, false, false, false] (by kernel_rfl) rfl rfl trivial (fun hHeld => ?_); refine with_tabW weighbridgeref07_Parse.tab6 weighbridgeref07_Parse.bits6 (fun HT_ HW_ => ?_)
            generalize w14.drew = w15 at BK288 HB hHeld ⊢
            refine pure_ (i := 0) (N := some 19) (v := ?_) (a' := ?_) #[true, false, false, false, false, false, false, false, false, false, false, false, false] rfl rfl (any_of HT_.out (by kernel_rfl)) (fun _ _ _ h => h) (Or.inl ⟨by rfl, ?_⟩) ?_ ?_
            rotate_left
            · intro w'
              go_simp
              with_reducible rfl
            rotate_left
            · simp only [Act.put, List.setIfInBounds_toArray, List.set_cons_zero, List.set_cons_succ, i64_w, i32_w]
              rfl
            refine pure_ (i := 3) (N := some 22) (v := ?_) (a' := ?_) #[true, false, false, true, false, false, false, false, false, false, false, false, false] rfl rfl (any_of HT_.out (by kernel_rfl)) (fun _ _ _ h => h) (Or.inl ⟨by rfl, ?_⟩) ?_ ?_
            rotate_left
            · intro w'
              go_simp
              with_reducible rfl
            rotate_left
            · simp only [Act.put, List.setIfInBounds_toArray, List.set_cons_zero, List.set_cons_succ, i64_w, i32_w]
              rfl
            refine pure_ (i := 6) (N := some 25) (v := ?_) (a' := ?_) #[true, false, false, true, false, false, true, false, false, false, false, false, false] rfl rfl (any_of HT_.out (by kernel_rfl)) (fun _ _ _ h => h) (Or.inl ⟨by rfl, ?_⟩) ?_ ?_
            rotate_left
            · intro w'
              go_simp
              with_reducible rfl
            rotate_left
            · simp only [Act.put, List.setIfInBounds_toArray, List.set_cons_zero, List.set_cons_succ, i64_w, i32_w]
              rfl
            refine pure_ (i := 7) (N := some 26) (v := ?_) (a' := ?_) #[true, false, false, true, false, false, true, true, false, false, false, false, false] rfl rfl (any_of HT_.out (by kernel_rfl)) (fun _ _ _ h => h) (Or.inl ⟨by rfl, ?_⟩) ?_ ?_
            rotate_left
            · intro w'
              go_simp
              with_reducible rfl
            rotate_left
            · simp only [Act.put, List.setIfInBounds_toArray, List.set_cons_zero, List.set_cons_succ, i64_w, i32_w]
              rfl
            refine pure_ (i := 8) (N := some 27) (v := ?_) (a' := ?_) #[true, false, false, true, false, false, true, true, true, false, false, false, false] rfl rfl (any_of HT_.out (by kernel_rfl)) (fun _ _ _ h => h) (Or.inl ⟨by rfl, ?_⟩) ?_ ?_
            rotate_left
            · intro w'
              go_simp
              with_reducible rfl
            rotate_left
            · simp only [Act.put, List.setIfInBounds_toArray, List.set_cons_zero, List.set_cons_succ, i64_w, i32_w]
              rfl
            refine pure_ (i := 9) (N := some 28) (v := ?_) (a' := ?_) #[true, false, false, true, false, false, true, true, true, true, false, false, false] rfl rfl (any_of HT_.out (by kernel_rfl)) (fun _ _ _ h => h) (Or.inl ⟨by rfl, ?_⟩) ?_ ?_
            rotate_left
            · intro w'
              go_simp
              with_reducible rfl
            rotate_left
            · simp only [Act.put, List.setIfInBounds_toArray, List.set_cons_zero, List.set_cons_succ, i64_w, i32_w]
              rfl
            refine take_ (i := 1) (N := some 20) (v := ?_) (a' := ?_) #[true, true, false, true, false, false, true, true, true, true, false, false, false] rfl rfl (take_ofW HT_.out HW_.out (by kernel_rfl)) (fun _ _ _ h => h) (Or.inl ⟨by rfl, ?_⟩) hHeld ?_ ?_
            rotate_left
            · intro w' _
              go_simp
              with_reducible rfl
            rotate_left
            · simp only [Act.put, List.setIfInBounds_toArray, List.set_cons_zero, List.set_cons_succ, i64_w, i32_w]
              rfl
            refine pure_ (i := 2) (N := some 21) (v := ?_) (a' := ?_) #[true, true, true, true, false, false, true, true, true, true, false, false, false] rfl rfl (any_of HT_.out (by kernel_rfl)) (fun _ _ _ h => h) (Or.inl ⟨by rfl, ?_⟩) ?_ ?_
            rotate_left
            · intro w'
              go_simp
              with_reducible rfl
            rotate_left
            · simp only [Act.put, List.setIfInBounds_toArray, List.set_cons_zero, List.set_cons_succ, i64_w, i32_w]
              rfl
            refine take_ (i := 4) (N := some 23) (v := ?_) (a' := ?_) #[true, true, true, true, true, false, true, true, true, true, false, false, false] rfl rfl (take_ofW HT_.out HW_.out (by kernel_rfl)) (fun _ _ _ h => h) (Or.inl ⟨by rfl, ?_⟩) hHeld ?_ ?_
            rotate_left
            · intro w' _
              go_simp
              with_reducible rfl
            rotate_left
            · simp only [Act.put, List.setIfInBounds_toArray, List.set_cons_zero, List.set_cons_succ, i64_w, i32_w]
              rfl
            refine pure_ (i := 5) (N := some 24) (v := ?_) (a' := ?_) #[true, true, true, true, true, true, true, true, true, true, false, false, false] rfl rfl (any_of HT_.out (by kernel_rfl)) (fun _ _ _ h => h) (Or.inl ⟨by rfl, ?_⟩) ?_ ?_
            rotate_left
            · intro w'
              go_simp
              with_reducible rfl
            rotate_left
            · simp only [Act.put, List.setIfInBounds_toArray, List.set_cons_zero, List.set_cons_succ, i64_w, i32_w]
              rfl
            refine pure_ (i := 10) (N := some 29) (v := ?_) (a' := ?_) #[true, true, true, true, true, true, true, true, true, true, true, false, false] rfl rfl (any_of HT_.out (by kernel_rfl)) (fun _ _ _ h => h) (Or.inl ⟨by rfl, ?_⟩) ?_ ?_
            rotate_left
            · intro w'
              go_simp
              with_reducible rfl
            rotate_left
            · simp only [Act.put, List.setIfInBounds_toArray, List.set_cons_zero, List.set_cons_succ, i64_w, i32_w]
              rfl
            refine one_ (i := 11) (N := none) #[true, true, true, true, true, true, true, true, true, true, true, true, false] rfl rfl (one_of HT_.out (by kernel_rfl)) (by decide) (fun K hK => ?_)
            have hs16 : w15.cell? ⟨gb288, 0, none⟩ = some (.int .i64 0) := (blk_cell BK288.out 0).trans rfl
            have hfs16 := blk_frozen BK288.out 0
            have hs17 : w15.cell? ⟨gb288, 1, none⟩ = some (.int .i64 0) := (blk_cell BK288.out 1).trans rfl
            have hfs17 := blk_frozen BK288.out 1
            have hs18 : w15.cell? ⟨gb288, 2, none⟩ = some (.int .u32 0) := (blk_cell BK288.out 2).trans rfl
            have hfs18 := blk_frozen BK288.out 2
            have hs19 : w15.cell? ⟨gb288, 3, none⟩ = some (.string (⟨#[]⟩ : ByteArray)) := (blk_cell BK288.out 3).trans rfl
            have hfs19 := blk_frozen BK288.out 3
            refine skip_ (w1 := ?_) (by rfl) rfl ?_ ?_
            rotate_left
            · go_simp
              rfl
            refine hK.out _ _ trivial (fun hHeld => ?_)
            clear hK K
            refine pure_ (i := 12) (N := some 3) (v := ?_) (a' := ?_) #[true, true, true, true, true, true, true, true, true, true, true, true, true] rfl rfl (any_of HT_.out (by kernel_rfl)) (fun _ _ _ h => h) (Or.inl ⟨by rfl, ?_⟩) ?_ ?_
            rotate_left
            · intro w'
              go_simp
              with_reducible rfl
            rotate_left
            · simp only [Act.put, List.setIfInBounds_toArray, List.set_cons_zero, List.set_cons_succ, i64_w, i32_w]
              rfl
            refine done_ (done_of HT_.out (by kernel_rfl)) ?_
            try go_wp2
            refine bodyPost_ret (results_ct rfl _ _ gb288 48 #[.int .i64 (wrap64 (bt a0 0)), .int .i64 (wrap64 (bt a0 1)), .int .u32 ((t290) % 4294967296), .string (a0.extract 8 a0.size)] (0, 0) _ rfl (by (with_reducible repeat (first | refine blk_drewN ?_ _ | refine blk_drew ?_ | refine blk_alloc ?_ _)); refine blk_put (cs := #[.int .i64 (wrap64 (bt a0 0)), .int .i64 (wrap64 (bt a0 1)), .int .u32 ((t290) % 4294967296), .string (⟨#[]⟩ : ByteArray)]) ?_ 3 _ rfl; (with_reducible repeat (first | refine blk_drewN ?_ _ | refine blk_drew ?_ | refine blk_alloc ?_ _)); refine blk_put (cs := #[.int .i64 (wrap64 (bt a0 0)), .int .i64 (wrap64 (bt a0 1)), .int .u32 0, .string (⟨#[]⟩ : ByteArray)]) ?_ 2 _ rfl; (with_reducible repeat (first | refine blk_drewN ?_ _ | refine blk_drew ?_ | refine blk_alloc ?_ _)); refine blk_put (cs := #[.int .i64 (wrap64 (bt a0 0)), .int .i64 0, .int .u32 0, .string (⟨#[]⟩ : ByteArray)]) ?_ 1 _ rfl; (with_reducible repeat (first | refine blk_drewN ?_ _ | refine blk_drew ?_ | refine blk_alloc ?_ _)); refine blk_put (cs := #[.int .i64 0, .int .i64 0, .int .u32 0, .string (⟨#[]⟩ : ByteArray)]) ?_ 0 _ rfl; (with_reducible repeat (first | refine blk_drewN ?_ _ | refine blk_drew ?_ | refine blk_alloc ?_ _)); exact BK288.out) Try.underlying48 rfl (by kernel_rfl)) rfl ?_
            exact ⟨by first | rfl | (simp [errW_none, errW_some] <;> rfl) | (simp [*, errW_none, errW_some] <;> rfl), by repeat (first | (with_reducible first | exact HB.out | apply below_alloc | apply pw_below_drewN | apply below_drew1 | refine below_set ?_ GE288.out) | exact HB.out)⟩
          · rw [if_neg c12] at H
            exact absurd H (by simp)
        · rw [if_neg c10] at H
          exact absurd H (by simp)
      · rw [if_neg c8] at H
        exact absurd H (by simp)
    · rw [if_neg c6] at H
      have c6b0 : (t289 == 65535) = false := beq_eq_false_iff_ne.mpr c6
      have c6b1 : (t289 != 65535) = true := bne_iff_ne.mpr c6
      simp only [Option.some.injEq, Prod.mk.injEq] at H
      obtain ⟨rfl, rfl, rfl, rfl, rfl⟩ := H
      go_enter Try.func30, Try.ntmps30
      go_wp2_with (first | ((with_reducible refine gate_dst (N := 2) rfl ?_); refine box_event ?hg (N := 2) ?hd (cs := #[.int .i64 0, .int .i64 0, .int .u32 0, .string (⟨#[]⟩ : ByteArray)]) (t := 48) ?hr ?_; (case hd => rfl); (case hg => rfl); (case hr => first | (go_simp; done) | (go_simp; rfl)); intro gb288 hg w20 hbox hb; have n0_ := Aside0.mk (below_step (by repeat (first | (with_reducible first | exact HB.out | apply below_alloc | apply pw_below_drewN | apply below_drew1) | exact HB.out)) hb); have n1_ := Aside0.mk (hbox); have n2_ := Aside0.mk ((by rw [hg]; exact (below_size (by repeat (first | (with_reducible first | exact HB.out | apply below_alloc | apply pw_below_drewN | apply below_drew1) | exact HB.out))) : w.heap.size ≤ gb288)); have n3_ := Aside0.mk ((by rw [hg]; exact (below_size (by repeat (first | (with_reducible first | exact HB.out | apply below_alloc | apply pw_below_drewN | apply below_drew1) | exact HB.out))) : w.heap.size ≤ gb288)); clear HB; have HB := n0_; have BK288 := n1_; have GW288 := n2_; have GE288 := n3_; clear n0_ n1_ n2_ n3_; clear hb hbox hg) | ((with_reducible refine gate_callee (f := 39) rfl ?_); refine goesL_ (some 11) rfl rfl Try.func39 (by kernel_rfl) rfl #[.string a0] rfl (by (try simp only [List.map_toArray, List.map_cons, List.map_nil]); first | done | rfl | (simp only [List.length_drop, List.length_take]; rfl)) ?_; (with_reducible refine (weighbridgeref03_Sum.calls a0 t289 _ A5.out).mono ?_); rintro e w21 ⟨rfl, hb⟩; (try clear A5); refine ⟨_, rfl, ?_⟩; have n0_ := Aside0.mk (blk_below (g := gb288) (o := .cells #[.int .i64 0, .int .i64 0, .int .u32 0, .string (⟨#[]⟩ : ByteArray)] 48 (0, 0)) (by (with_reducible repeat (first | refine blk_drewN ?_ _ | refine blk_drew ?_ | refine blk_alloc ?_ _)); exact BK288.out) hb); have n1_ := Aside0.mk (below_step (by repeat (first | (with_reducible first | exact HB.out | apply below_alloc | apply pw_below_drewN | apply below_drew1 | refine below_set ?_ GE288.out) | exact HB.out)) hb); clear BK288; clear HB; have BK288 := n0_; have HB := n1_; clear n0_ n1_; (try clear hb); (try clear hb2); (try clear hk); (try clear hi); have hcz22_0 : w21.cell? ⟨gb288, 0, none⟩ = some (.int .i64 0) := (blk_cell BK288.out 0).trans rfl; have hcz22_1 : w21.cell? ⟨gb288, 1, none⟩ = some (.int .i64 0) := (blk_cell BK288.out 1).trans rfl; have hcz22_2 : w21.cell? ⟨gb288, 2, none⟩ = some (.int .u32 0) := (blk_cell BK288.out 2).trans rfl; have hcz22_3 : w21.cell? ⟨gb288, 3, none⟩ = some (.string (⟨#[]⟩ : ByteArray)) := (blk_cell BK288.out 3).trans rfl; have hfz22_0 := blk_frozen BK288.out 0; have hfz22_1 := blk_frozen BK288.out 1; have hfz22_2 := blk_frozen BK288.out 2; have hfz22_3 := blk_frozen BK288.out 3))
      refine bodyPost_ret (results_ct rfl _ _ gb288 48 #[.int .i64 0, .int .i64 0, .int .u32 0, .string (⟨#[]⟩ : ByteArray)] (0, 0) _ rfl (by (with_reducible repeat (first | refine blk_drewN ?_ _ | refine blk_drew ?_ | refine blk_alloc ?_ _)); refine blk_put (cs := #[.int .i64 0, .int .i64 0, .int .u32 0, .string (⟨#[]⟩ : ByteArray)]) ?_ 3 _ rfl; (with_reducible repeat (first | refine blk_drewN ?_ _ | refine blk_drew ?_ | refine blk_alloc ?_ _)); refine blk_put (cs := #[.int .i64 0, .int .i64 0, .int .u32 0, .string (⟨#[]⟩ : ByteArray)]) ?_ 2 _ rfl; (with_reducible repeat (first | refine blk_drewN ?_ _ | refine blk_drew ?_ | refine blk_alloc ?_ _)); refine blk_put (cs := #[.int .i64 0, .int .i64 0, .int .u32 0, .string (⟨#[]⟩ : ByteArray)]) ?_ 1 _ rfl; (with_reducible repeat (first | refine blk_drewN ?_ _ | refine blk_drew ?_ | refine blk_alloc ?_ _)); refine blk_put (cs := #[.int .i64 0, .int .i64 0, .int .u32 0, .string (⟨#[]⟩ : ByteArray)]) ?_ 0 _ rfl; (with_reducible repeat (first | refine blk_drewN ?_ _ | refine blk_drew ?_ | refine blk_alloc ?_ _)); exact BK288.out) Try.underlying48 rfl (by kernel_rfl)) rfl ?_
      exact ⟨by first | rfl | (simp [errW_none, errW_some] <;> rfl) | (simp [*, errW_none, errW_some] <;> rfl), by repeat (first | (with_reducible first | exact HB.out | apply below_alloc | apply pw_below_drewN | apply below_drew1 | refine below_set ?_ GE288.out) | exact HB.out)⟩

end Go.Proofs.Ythmpmladneiegaa.Pr
