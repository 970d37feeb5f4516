-- trimmed by trims.py
-- Written by a program of the session (wip/tools) out of the translation, over the kit's print; with pieces of the session's own.
import Derived.Test.YtfnjohklmpiboaaPr0
import Derived.Test.YtfnjohklmpiboaaPr2
import Derived.Test.YtfnjohklmpiboaaPr4
import Derived.Test.YtfnjohklmpiboaaPr5
namespace Go.Proofs.Ytfnjohklmpiboaa.Pr
open Go.RowKit Go.Proofs.YtfnjohklmpiboaaW.PrintWords Go.Proofs.YtfnjohklmpiboaaW.PrintLast Go.Proofs.YtfnjohklmpiboaaW.PrintMore
attribute [local go_sem] max2_int min2_int max_two min_two max_three min_three max_four min_four   -- for this text's walks alone
set_option linter.unusedVariables false
set_option linter.unusedSimpArgs false
open Go.Proofs.Ytfnjohklmpiboaa.Sp
/-! ### weighbridgeref07_Build_p: function 19 -/
def weighbridgeref07_Build_p.j0 : Nat → Bool → Int → Int → Int → ByteArray → Option (ByteArray × Int)
 | 0, _, _, _, _, _ => none
 | k + 1, x23, x201000, x201001, x201002, x201003 => if x23 = true then (some ((⟨#[]⟩ : ByteArray), 1)) else (if (wrap64 (8 + (x201003.size : Int))) > 1500 then (some ((⟨#[]⟩ : ByteArray), 18)) else ((weighbridgeref04_Num.f 1 x201000).bind fun t201 => ((weighbridgeref04_Num.f 1 x201001).bind fun t202 => (if t201.size + t202.size ≤ 9223372036854775807 then ((weighbridgeref04_Num.f 4 (wrap64 (x201002))).bind fun t203 => (if t203.size + x201003.size ≤ 9223372036854775807 then (if (t201 ++ t202).size + 2 ≤ 9223372036854775807 then (if ((t201 ++ t202) ++ (⟨#[0, 0]⟩ : ByteArray)).size + (t203 ++ x201003).size ≤ 9223372036854775807 then ((weighbridgeref03_Check.f (((t201 ++ t202) ++ (⟨#[0, 0]⟩ : ByteArray)) ++ (t203 ++ x201003))).bind fun t204 => ((weighbridgeref04_Num.f 2 (wrap64 (t204))).bind fun t205 => (if (t201 ++ t202).size + t205.size ≤ 9223372036854775807 then (if ((t201 ++ t202) ++ t205).size + (t203 ++ x201003).size ≤ 9223372036854775807 then (some (((t201 ++ t202) ++ t205) ++ (t203 ++ x201003), 0)) else (none)) else (none)))) else (none)) else (none)) else (none))) else (none)))))
def weighbridgeref07_Build_p.f (k : Nat) (a0_0 : Int) (a0_1 : Int) (a0_2 : Int) (a0_3 : ByteArray) : Option (ByteArray × Int) := if a0_0 < 0 then (weighbridgeref07_Build_p.j0 k true a0_0 a0_1 a0_2 a0_3) else (if a0_0 > 255 then (weighbridgeref07_Build_p.j0 k true a0_0 a0_1 a0_2 a0_3) else (if a0_1 < 0 then (weighbridgeref07_Build_p.j0 k true a0_0 a0_1 a0_2 a0_3) else (weighbridgeref07_Build_p.j0 k (decide (a0_1 > 255)) a0_0 a0_1 a0_2 a0_3)))
theorem weighbridgeref07_Build_p.mono_l : ∀ k, (∀ y0 y1 y2 y3 y4, LeO (weighbridgeref07_Build_p.j0 k y0 y1 y2 y3 y4) (weighbridgeref07_Build_p.j0 (k + 1) y0 y1 y2 y3 y4))
 | 0 => fun _ _ _ _ _ r h => by simp [weighbridgeref07_Build_p.j0] at h
 | k + 1 => by
  have ih0 := weighbridgeref07_Build_p.mono_l k
  ·intro y0 y1 y2 y3 y4
   unfold weighbridgeref07_Build_p.j0
   repeat' first
   | (with_reducible exact ih0 _ _ _ _ _)
   | (with_reducible exact LeO.refl _)
   | (with_reducible exact LeO.none _)
   | (with_reducible refine LeO.ite ?_ ?_)
   | (with_reducible refine LeO.bind ?_ (fun _ => ?_))
   | exact ih0 _ _ _ _ _
   | exact LeO.none _
   | refine LeO.ite ?_ ?_
   | refine LeO.bind ?_ (fun _ => ?_)
theorem weighbridgeref07_Build_p.mono : ∀ a0 a1 a2 a3 k, LeO (weighbridgeref07_Build_p.f k a0 a1 a2 a3) (weighbridgeref07_Build_p.f (k + 1) a0 a1 a2 a3) := by
 intro a0 a1 a2 a3 k
 have ih0 := weighbridgeref07_Build_p.mono_l k
 unfold weighbridgeref07_Build_p.f
 repeat' first
   | (with_reducible exact ih0 _ _ _ _ _)
   | (with_reducible exact LeO.refl _)
   | (with_reducible exact LeO.none _)
   | (with_reducible refine LeO.ite ?_ ?_)
   | (with_reducible refine LeO.bind ?_ (fun _ => ?_))
   | exact ih0 _ _ _ _ _
   | exact LeO.none _
   | refine LeO.ite ?_ ?_
   | refine LeO.bind ?_ (fun _ => ?_)
def weighbridgeref07_Build_p.T5 : Bool × List (List Nat × List Nat) := (true, [([], []), ([0], [0]), ([1], [1]), ([], []), ([3], [3]), ([4, 2], [4]), ([2, 5], [2, 5]), ([6, 5, 0, 1, 2, 3, 4, 5, 6], [6])])
def weighbridgeref07_Build_p.B5 : List Nat := [0, 1, 3, 0, 8, 31, 63, 127]
theorem weighbridgeref07_Build_p.tab5 : rtab .any (opsOf Try.f19 5) = weighbridgeref07_Build_p.T5 := by kernel_rfl
theorem weighbridgeref07_Build_p.bits5 : waitsOk weighbridgeref07_Build_p.T5.2 weighbridgeref07_Build_p.B5 = true := by kernel_rfl
def weighbridgeref07_Build_p.T6 : Bool × List (List Nat × List Nat) := (true, [([], []), ([0], [0]), ([1], [1]), ([2], [2]), ([], []), ([4], [4]), ([3, 5], [3, 5]), ([6, 3, 0, 1, 2, 3, 4, 5, 6], [6])])
def weighbridgeref07_Build_p.B6 : List Nat := [0, 1, 3, 7, 0, 16, 63, 127]
theorem weighbridgeref07_Build_p.tab6 : rtab .any (opsOf Try.f19 6) = weighbridgeref07_Build_p.T6 := by kernel_rfl
theorem weighbridgeref07_Build_p.bits6 : waitsOk weighbridgeref07_Build_p.T6.2 weighbridgeref07_Build_p.B6 = true := by kernel_rfl
set_option maxHeartbeats 8000000 in
set_option maxRecDepth 100000 in
theorem weighbridgeref07_Build_p.calls (k : Nat) (a0_0 : Int) (a0_1 : Int) (a0_2 : Int) (a0_3 : ByteArray) (r1 : ByteArray) (r2 : Int) (w : World) (h : weighbridgeref07_Build_p.f k a0_0 a0_1 a0_2 a0_3 = some (r1, r2)) :
  Calls Try.prog 19 #[.agg #[.int .i64 a0_0, .int .i64 a0_1, .int .u32 a0_2, .string a0_3]] w fun e w' => e = .returned (.tuple #[.string r1, .int .i64 r2]) ∧ Below w.heap.size w w' := by
 have hu56 := Try.underlying56
 have HB := Aside0.mk (Below.refl w.heap.size w)
 have H : (if a0_0 < 0 then (weighbridgeref07_Build_p.j0 k true a0_0 a0_1 a0_2 a0_3) else (if a0_0 > 255 then (weighbridgeref07_Build_p.j0 k true a0_0 a0_1 a0_2 a0_3) else (if a0_1 < 0 then (weighbridgeref07_Build_p.j0 k true a0_0 a0_1 a0_2 a0_3) else (weighbridgeref07_Build_p.j0 k (decide (a0_1 > 255)) a0_0 a0_1 a0_2 a0_3)))) = some (r1, r2) := h
 clear h
 have HC2 := Aside0.mk H
 clear H
 go_enter Try.func19, Try.ntmps19
 go_upto_region 1 with (first | ((with_reducible refine gate_dst (N := 1) rfl ?_); refine box_event ?hg (N := 1) ?hd (cs := #[.int .i64 a0_0, .int .i64 a0_1, .int .u32 a0_2, .string a0_3]) (t := 56) ?hr ?_; (case hd => rfl); (case hg => rfl); (case hr => first | (go_simp; done) | (go_simp; rfl)); intro gb200 hg w3 hbox hb; have n0_ := Aside0.mk (below_step (BW HB) hb); have n1_ := Aside0.mk (hbox); have n2_ := Aside0.mk ((by rw [hg]; exact (below_size (BW HB)) : w.heap.size ≤ gb200)); have n3_ := Aside0.mk ((by rw [hg]; exact (below_size (BW HB)) : w.heap.size ≤ gb200)); clear HB; have HB := n0_; have BK200 := n1_; have GW200 := n2_; have GE200 := n3_; clear n0_ n1_ n2_ n3_; clear hb hbox hg))
 (try simp only [Act.put, List.setIfInBounds_toArray, List.set_cons_zero, List.set_cons_succ])
 go_cut [23] (fun v23 wc => ∃ (kq : Nat) (x23_1 : Bool), v23 = .bool x23_1 ∧ Aside0 (weighbridgeref07_Build_p.j0 kq x23_1 a0_0 a0_1 a0_2 a0_3 = some (r1, r2)) ∧ Aside0 (kq ≤ k) ∧ Aside0 (wc.heap[gb200]? = some (.cells #[.int .i64 a0_0, .int .i64 a0_1, .int .u32 a0_2, .string a0_3] 56 (0, 0))) ∧ Aside0 (Below w.heap.size w wc))
 case first =>
  have H := HC2.out
  clear HC2
  by_cases c4 : a0_0 < 0
  ·rw [if_pos c4] at H
   have c4b0 : decide (a0_0 < 0) = true := decide_eq_true c4
   clear c4
   (first | rw [c4b0] | (simp only [i64_w, i32_w]; rw [c4b0]) | skip)
   have H' := Aside0.mk H
   clear H
   obtain ⟨hcz5_0, hcz5_1, hcz5_2, hcz5_3, hfz5_0, hfz5_1, hfz5_2, hfz5_3⟩ := blk4 BK200.out
   go_wp2
   go_meet
   case rel => exact ⟨_, (true), (by first | rfl | (simp; done) | (congr 2; simp only [ByteArray.size_extract, ByteArray.size_append]; (try unfold wrap64); omega) | (simp only [ByteArray.size_extract, ByteArray.size_append, Nat.sub_zero]; done) | (congr 1; simp only [ByteArray.size_extract, ByteArray.size_append, Nat.sub_zero]; omega) | (simp [*]; done)), H', ⟨by first | omega | exact Nat.le_refl _⟩, ⟨BD BK200⟩, ⟨BW HB⟩⟩
  rw [if_neg c4] at H
  have c4b0 : decide (a0_0 < 0) = false := decide_eq_false c4
  clear c4
  (first | rw [c4b0] | (simp only [i64_w, i32_w]; rw [c4b0]) | skip)
  by_cases c6 : a0_0 > 255
  ·rw [if_pos c6] at H
   have c6b0 : decide (255 < a0_0) = true := decide_eq_true c6
   clear c6
   have H' := Aside0.mk H
   clear H
   obtain ⟨hcz7_0, hcz7_1, hcz7_2, hcz7_3, hfz7_0, hfz7_1, hfz7_2, hfz7_3⟩ := blk4 BK200.out
   go_wp2
   go_meet
   case rel => exact ⟨_, (true), (by first | rfl | (simp; done) | (congr 2; simp only [ByteArray.size_extract, ByteArray.size_append]; (try unfold wrap64); omega) | (simp only [ByteArray.size_extract, ByteArray.size_append, Nat.sub_zero]; done) | (congr 1; simp only [ByteArray.size_extract, ByteArray.size_append, Nat.sub_zero]; omega) | (simp [*]; done)), H', ⟨by first | omega | exact Nat.le_refl _⟩, ⟨BD BK200⟩, ⟨BW HB⟩⟩
  rw [if_neg c6] at H
  have c6b0 : decide (255 < a0_0) = false := decide_eq_false c6
  clear c6
  by_cases c8 : a0_1 < 0
  ·rw [if_pos c8] at H
   have c8b0 : decide (a0_1 < 0) = true := decide_eq_true c8
   clear c8
   have H' := Aside0.mk H
   clear H
   obtain ⟨hcz9_0, hcz9_1, hcz9_2, hcz9_3, hfz9_0, hfz9_1, hfz9_2, hfz9_3⟩ := blk4 BK200.out
   go_wp2
   go_meet
   case rel => exact ⟨_, (true), (by first | rfl | (simp; done) | (congr 2; simp only [ByteArray.size_extract, ByteArray.size_append]; (try unfold wrap64); omega) | (simp only [ByteArray.size_extract, ByteArray.size_append, Nat.sub_zero]; done) | (congr 1; simp only [ByteArray.size_extract, ByteArray.size_append, Nat.sub_zero]; omega) | (simp [*]; done)), H', ⟨by first | omega | exact Nat.le_refl _⟩, ⟨BD BK200⟩, ⟨BW HB⟩⟩
  rw [if_neg c8] at H
  have c8b0 : decide (a0_1 < 0) = false := decide_eq_false c8
  clear c8
  have H' := Aside0.mk H
  clear H
  obtain ⟨hcz10_0, hcz10_1, hcz10_2, hcz10_3, hfz10_0, hfz10_1, hfz10_2, hfz10_3⟩ := blk4 BK200.out
  go_wp2
  go_meet
  case rel => exact ⟨_, (decide (a0_1 > 255)), (by first | rfl | (simp; done) | (congr 2; simp only [ByteArray.size_extract, ByteArray.size_append]; (try unfold wrap64); omega) | (simp only [ByteArray.size_extract, ByteArray.size_append, Nat.sub_zero]; done) | (congr 1; simp only [ByteArray.size_extract, ByteArray.size_append, Nat.sub_zero]; omega) | (simp [*]; done)), H', ⟨by first | omega | exact Nat.le_refl _⟩, ⟨BD BK200⟩, ⟨BW HB⟩⟩
 case rest =>
  clear HC2
  try clear c1
  try clear p2
  try clear c4
  try clear c4b0
  try clear c6
  try clear c6b0
  try clear c8
  try clear c8b0
  try clear hcz10_0
  try clear hcz10_1
  try clear hcz10_2
  try clear hcz10_3
  try clear hcz5_0
  try clear hcz5_1
  try clear hcz5_2
  try clear hcz5_3
  try clear hcz7_0
  try clear hcz7_1
  try clear hcz7_2
  try clear hcz7_3
  try clear hcz9_0
  try clear hcz9_1
  try clear hcz9_2
  try clear hcz9_3
  try clear hfz10_0
  try clear hfz10_1
  try clear hfz10_2
  try clear hfz10_3
  try clear hfz5_0
  try clear hfz5_1
  try clear hfz5_2
  try clear hfz5_3
  try clear hfz7_0
  try clear hfz7_1
  try clear hfz7_2
  try clear hfz7_3
  try clear hfz9_0
  try clear hfz9_1
  try clear hfz9_2
  try clear hfz9_3
  obtain ⟨kq, x23_1, rfl, HA, HJ1, BK200, HB⟩ := hcut
  cases kq with
  | zero => exact absurd HA.out (by simp [weighbridgeref07_Build_p.j0])
  | succ kj1 =>
   have H := HA.out
   clear HA
   simp only [weighbridgeref07_Build_p.j0] at H
   by_cases c11 : x23_1 = true
   ·subst c11
    first | rw [if_pos rfl] at H | rw [if_pos trivial] at H
    simp only [Option.some.injEq, Prod.mk.injEq] at H
    obtain ⟨rfl, rfl⟩ := H
    go_wp2
    go_ret2
    exact ⟨RT, BW HB⟩
   replace c11 := Bool.eq_false_iff.mpr c11
   subst c11
   have H1 : (if (wrap64 (8 + (a0_3.size : Int))) > 1500 then (some ((⟨#[]⟩ : ByteArray), 18)) else ((weighbridgeref04_Num.f 1 a0_0).bind fun t201 => ((weighbridgeref04_Num.f 1 a0_1).bind fun t202 => (if t201.size + t202.size ≤ 9223372036854775807 then ((weighbridgeref04_Num.f 4 (wrap64 (a0_2))).bind fun t203 => (if t203.size + a0_3.size ≤ 9223372036854775807 then (if (t201 ++ t202).size + 2 ≤ 9223372036854775807 then (if ((t201 ++ t202) ++ (⟨#[0, 0]⟩ : ByteArray)).size + (t203 ++ a0_3).size ≤ 9223372036854775807 then ((weighbridgeref03_Check.f (((t201 ++ t202) ++ (⟨#[0, 0]⟩ : ByteArray)) ++ (t203 ++ a0_3))).bind fun t204 => ((weighbridgeref04_Num.f 2 (wrap64 (t204))).bind fun t205 => (if (t201 ++ t202).size + t205.size ≤ 9223372036854775807 then (if ((t201 ++ t202) ++ t205).size + (t203 ++ a0_3).size ≤ 9223372036854775807 then (some (((t201 ++ t202) ++ t205) ++ (t203 ++ a0_3), 0)) else (none)) else (none)))) else (none)) else (none)) else (none))) else (none))))) = some (r1, r2) := by rw [if_neg (show ¬ (false = true) by decide)] at H; exact H
   clear H
   have H := H1
   clear H1
   by_cases c12 : (wrap64 (8 + (a0_3.size : Int))) > 1500
   ·rw [if_pos c12] at H
    have c12b0 : decide (1500 < (wrap64 (8 + (a0_3.size : Int)))) = true := decide_eq_true c12
    clear c12
    simp only [Option.some.injEq, Prod.mk.injEq] at H
    obtain ⟨rfl, rfl⟩ := H
    obtain ⟨hcz13_0, hcz13_1, hcz13_2, hcz13_3, hfz13_0, hfz13_1, hfz13_2, hfz13_3⟩ := blk4 BK200.out
    go_wp2
    go_ret2
    exact ⟨RT, BW HB⟩
   rw [if_neg c12] at H
   have c12b0 : decide (1500 < (wrap64 (8 + (a0_3.size : Int)))) = false := decide_eq_false c12
   clear c12
   replace H := Option.bind_eq_some_iff.mp H
   obtain ⟨t201, A140, H⟩ := H
   (try set_option simprocs false in dsimp only at H)
   have A14 := Aside0.mk A140
   clear A140
   replace H := Option.bind_eq_some_iff.mp H
   obtain ⟨t202, A150, H⟩ := H
   (try set_option simprocs false in dsimp only at H)
   have A15 := Aside0.mk A150
   clear A150
   by_cases c16 : t201.size + t202.size ≤ 9223372036854775807
   rotate_left
   ·rw [if_neg c16] at H
    exact absurd H (by simp)
   rw [if_pos c16] at H
   have c16b0 := eq_true c16
   have c16b1 : decide (t201.size + t202.size ≤ 9223372036854775807) = true := decide_eq_true c16
   try have c16b2 : (9223372036854775807 < t201.size + t202.size) = False := eq_false (Nat.not_lt.2 c16)
   replace H := Option.bind_eq_some_iff.mp H
   obtain ⟨t203, A170, H⟩ := H
   (try set_option simprocs false in dsimp only at H)
   have A17 := Aside0.mk A170
   clear A170
   by_cases c18 : t203.size + a0_3.size ≤ 9223372036854775807
   rotate_left
   ·rw [if_neg c18] at H
    exact absurd H (by simp)
   rw [if_pos c18] at H
   have c18b0 := eq_true c18
   have c18b1 : decide (t203.size + a0_3.size ≤ 9223372036854775807) = true := decide_eq_true c18
   try have c18b2 : (9223372036854775807 < t203.size + a0_3.size) = False := eq_false (Nat.not_lt.2 c18)
   by_cases c19 : (t201 ++ t202).size + 2 ≤ 9223372036854775807
   rotate_left
   ·rw [if_neg c19] at H
    exact absurd H (by simp)
   rw [if_pos c19] at H
   have c19b0 := eq_true c19
   have c19b1 : decide ((t201 ++ t202).size + 2 ≤ 9223372036854775807) = true := decide_eq_true c19
   try have c19b2 : (9223372036854775807 < (t201 ++ t202).size + 2) = False := eq_false (Nat.not_lt.2 c19)
   (try (have c19r := c19; (repeat rw [ByteArray.size_append] at c19r); (repeat rw [ByteArray.size_extract] at c19r); (repeat rw [Nat.sub_zero] at c19r); (repeat rw [Nat.min_self] at c19r); have c19rt := eq_true c19r; have c19ru := eq_false (Nat.not_lt.mpr c19r); clear c19r))
   (try (have c19s := c19; simp [c16b0, c18b0] at c19s; have c19t := eq_true c19s; have c19u := eq_false (Nat.not_lt.mpr c19s); clear c19s))
   by_cases c20 : ((t201 ++ t202) ++ (⟨#[0, 0]⟩ : ByteArray)).size + (t203 ++ a0_3).size ≤ 9223372036854775807
   rotate_left
   ·rw [if_neg c20] at H
    exact absurd H (by simp)
   rw [if_pos c20] at H
   have c20b0 := eq_true c20
   have c20b1 : decide (((t201 ++ t202) ++ (⟨#[0, 0]⟩ : ByteArray)).size + (t203 ++ a0_3).size ≤ 9223372036854775807) = true := decide_eq_true c20
   try have c20b2 : (9223372036854775807 < ((t201 ++ t202) ++ (⟨#[0, 0]⟩ : ByteArray)).size + (t203 ++ a0_3).size) = False := eq_false (Nat.not_lt.2 c20)
   (try (have c20r := c20; (repeat rw [ByteArray.size_append] at c20r); (repeat rw [ByteArray.size_extract] at c20r); (repeat rw [Nat.sub_zero] at c20r); (repeat rw [Nat.min_self] at c20r); (try rw [show (⟨#[0, 0]⟩ : ByteArray).size = 2 from rfl] at c20r); have c20rt := eq_true c20r; have c20ru := eq_false (Nat.not_lt.mpr c20r); clear c20r))
   (try (have c20s := c20; simp [c16b0, c18b0, c19b0] at c20s; have c20t := eq_true c20s; have c20u := eq_false (Nat.not_lt.mpr c20s); clear c20s))
   replace H := Option.bind_eq_some_iff.mp H
   obtain ⟨t204, A210, H⟩ := H
   (try set_option simprocs false in dsimp only at H)
   have A21 := Aside0.mk A210
   clear A210
   replace H := Option.bind_eq_some_iff.mp H
   obtain ⟨t205, A220, H⟩ := H
   (try set_option simprocs false in dsimp only at H)
   have A22 := Aside0.mk A220
   clear A220
   by_cases c23 : (t201 ++ t202).size + t205.size ≤ 9223372036854775807
   rotate_left
   ·rw [if_neg c23] at H
    exact absurd H (by simp)
   rw [if_pos c23] at H
   have c23b0 := eq_true c23
   have c23b1 : decide ((t201 ++ t202).size + t205.size ≤ 9223372036854775807) = true := decide_eq_true c23
   try have c23b2 : (9223372036854775807 < (t201 ++ t202).size + t205.size) = False := eq_false (Nat.not_lt.2 c23)
   (try (have c23r := c23; (repeat rw [ByteArray.size_append] at c23r); (repeat rw [ByteArray.size_extract] at c23r); (repeat rw [Nat.sub_zero] at c23r); (repeat rw [Nat.min_self] at c23r); have c23rt := eq_true c23r; have c23ru := eq_false (Nat.not_lt.mpr c23r); clear c23r))
   (try (have c23s := c23; simp [c16b0, c18b0, c19b0, c20b0] at c23s; have c23t := eq_true c23s; have c23u := eq_false (Nat.not_lt.mpr c23s); clear c23s))
   by_cases c24 : ((t201 ++ t202) ++ t205).size + (t203 ++ a0_3).size ≤ 9223372036854775807
   rotate_left
   ·rw [if_neg c24] at H
    exact absurd H (by simp)
   rw [if_pos c24] at H
   have c24b0 := eq_true c24
   have c24b1 : decide (((t201 ++ t202) ++ t205).size + (t203 ++ a0_3).size ≤ 9223372036854775807) = true := decide_eq_true c24
   try have c24b2 : (9223372036854775807 < ((t201 ++ t202) ++ t205).size + (t203 ++ a0_3).size) = False := eq_false (Nat.not_lt.2 c24)
   (try (have c24r := c24; (repeat rw [ByteArray.size_append] at c24r); (repeat rw [ByteArray.size_extract] at c24r); (repeat rw [Nat.sub_zero] at c24r); (repeat rw [Nat.min_self] at c24r); have c24rt := eq_true c24r; have c24ru := eq_false (Nat.not_lt.mpr c24r); clear c24r))
   (try (have c24s := c24; simp [c16b0, c18b0, c19b0, c20b0, c23b0] at c24s; have c24t := eq_true c24s; have c24u := eq_false (Nat.not_lt.mpr c24s); clear c24s))
   simp only [Option.some.injEq, Prod.mk.injEq] at H
   obtain ⟨rfl, rfl⟩ := H
   obtain ⟨hcz25_0, hcz25_1, hcz25_2, hcz25_3, hfz25_0, hfz25_1, hfz25_2, hfz25_3⟩ := blk4 BK200.out
   try go_wp2
   have n0_ := Aside0.mk (blk_drew BK200.out)
   have n1_ := Aside0.mk (below_drew1 HB.out)
   clear BK200
   clear HB
   have BK200 := n0_
   have HB := n1_
   clear n0_ n1_
   refine start_ (n := 8) (S := fun w' => w'.cell? ⟨gb200, 0, none⟩ = some (.int .i64 a0_0) ∧ w'.cell? ⟨gb200, 1, none⟩ = some (.int .i64 a0_1) ∧ w'.cell? ⟨gb200, 2, none⟩ = some (.int .u32 a0_2) ∧ w'.cell? ⟨gb200, 3, none⟩ = some (.string a0_3)) (ds := []) (bm 8 0x0) (by kernel_rfl) rfl rfl ⟨(blk_cell BK200.out 0).trans rfl, (blk_cell BK200.out 1).trans rfl, (blk_cell BK200.out 2).trans rfl, (blk_cell BK200.out 3).trans rfl⟩ (fun hHeld => ?_); refine with_tabW weighbridgeref07_Build_p.tab5 weighbridgeref07_Build_p.bits5 (fun HT_ HW_ => ?_)
   generalize wc.drew = w26 at BK200 HB hHeld ⊢
   refine pu 0 29 (bm 8 0x1) HT_ ?_
   refine pu 3 32 (bm 8 0x9) HT_ ?_
   refine tw4 1 30 (bm 8 0xb) HT_ HW_ hHeld ?_
   refine tw4 4 33 (bm 8 0x1b) HT_ HW_ hHeld ?_
   refine one_ (i := 2) (N := some 31) (bm 8 0x1f) rfl rfl (one_of HT_.out (by kernel_rfl)) (by decide) (fun K hK => ?_)
   refine goes_ Try.func41 (by kernel_rfl) rfl #[.int .i64 1, .int .i64 a0_0] (by rfl) rfl rfl (by (try simp only [List.map_toArray, List.map_cons, List.map_nil]); first | done | rfl | (simp only [Int.toNat_natCast]; first | done | rfl) | (rw [Int.toNat_natCast, ByteArray.extract_zero_size]; rfl) | (simp only [List.length_drop, List.length_take]; rfl)) ?_
   with_reducible refine (weighbridgeref04_Num.calls 1 a0_0 t201 _ A14.out).mono ?_
   rintro e w27 ⟨rfl, hb⟩
   refine ⟨_, rfl, ?_⟩
   have n0_ := Aside0.mk (blkB BK200 hb)
   have n1_ := Aside0.mk (below_step (BW HB) hb)
   clear BK200
   clear HB
   have BK200 := n0_
   have HB := n1_
   clear n0_ n1_
   (try clear hb)
   (try clear hb2)
   (try clear hk)
   (try clear hi)
   refine hK.out _ _ ⟨(blk_cell BK200.out 0).trans rfl, (blk_cell BK200.out 1).trans rfl, (blk_cell BK200.out 2).trans rfl, (blk_cell BK200.out 3).trans rfl⟩ (fun hHeld => ?_)
   clear hK K
   refine norm_ (a' := ?_) ?_ ?_
   rotate_left
   ·show Act.put _ (some 31) _ = _
    simp only [Act.put, zpA, zpO, zpS, i64_w, i32_w]
    rfl
   refine one_ (i := 5) (N := some 34) (bm 8 0x3f) rfl rfl (one_of HT_.out (by kernel_rfl)) (by decide) (fun K hK => ?_)
   refine goes_ Try.func41 (by kernel_rfl) rfl #[.int .i64 1, .int .i64 a0_1] (by rfl) rfl rfl (by (try simp only [List.map_toArray, List.map_cons, List.map_nil]); first | done | rfl | (simp only [Int.toNat_natCast]; first | done | rfl) | (rw [Int.toNat_natCast, ByteArray.extract_zero_size]; rfl) | (simp only [List.length_drop, List.length_take]; rfl)) ?_
   with_reducible refine (weighbridgeref04_Num.calls 1 a0_1 t202 _ A15.out).mono ?_
   rintro e w28 ⟨rfl, hb⟩
   refine ⟨_, rfl, ?_⟩
   have n0_ := Aside0.mk (blkB BK200 hb)
   have n1_ := Aside0.mk (below_step (BW HB) hb)
   clear BK200
   clear HB
   have BK200 := n0_
   have HB := n1_
   clear n0_ n1_
   (try clear hb)
   (try clear hb2)
   (try clear hk)
   (try clear hi)
   refine hK.out _ _ ⟨(blk_cell BK200.out 0).trans rfl, (blk_cell BK200.out 1).trans rfl, (blk_cell BK200.out 2).trans rfl, (blk_cell BK200.out 3).trans rfl⟩ (fun hHeld => ?_)
   clear hK K
   refine norm_ (a' := ?_) ?_ ?_
   rotate_left
   ·show Act.put _ (some 34) _ = _
    simp only [Act.put, zpA, zpO, zpS, i64_w, i32_w]
    rfl
   refine pu 6 35 (bm 8 0x7f) HT_ ?_
   refine pu 7 4 (bm 8 0xff) HT_ ?_
   refine done_ (done_of HT_.out (by kernel_rfl)) ?_
   try go_wp2
   have n0_ := Aside0.mk (blk_drew BK200.out)
   have n1_ := Aside0.mk (below_drew1 HB.out)
   clear BK200
   clear HB
   have BK200 := n0_
   have HB := n1_
   clear n0_ n1_
   refine start_ (n := 8) (S := fun w' => w'.cell? ⟨gb200, 0, none⟩ = some (.int .i64 a0_0) ∧ w'.cell? ⟨gb200, 1, none⟩ = some (.int .i64 a0_1) ∧ w'.cell? ⟨gb200, 2, none⟩ = some (.int .u32 a0_2) ∧ w'.cell? ⟨gb200, 3, none⟩ = some (.string a0_3)) (ds := []) (bm 8 0x0) (by kernel_rfl) rfl rfl ⟨(blk_cell BK200.out 0).trans rfl, (blk_cell BK200.out 1).trans rfl, (blk_cell BK200.out 2).trans rfl, (blk_cell BK200.out 3).trans rfl⟩ (fun hHeld => ?_); refine with_tabW weighbridgeref07_Build_p.tab6 weighbridgeref07_Build_p.bits6 (fun HT_ HW_ => ?_)
   generalize w28.drew = w29 at BK200 HB hHeld ⊢
   refine pu 0 36 (bm 8 0x1) HT_ ?_
   refine pu 4 40 (bm 8 0x11) HT_ ?_
   refine tw4 1 37 (bm 8 0x13) HT_ HW_ hHeld ?_
   refine pu 2 38 (bm 8 0x17) HT_ ?_
   refine tw4 5 41 (bm 8 0x37) HT_ HW_ hHeld ?_
   refine one_ (i := 3) (N := some 39) (bm 8 0x3f) rfl rfl (one_of HT_.out (by kernel_rfl)) (by decide) (fun K hK => ?_)
   refine goes_ Try.func41 (by kernel_rfl) rfl #[.int .i64 4, .int .i64 (wrap64 (a0_2))] (by rfl) rfl rfl (by (try simp only [List.map_toArray, List.map_cons, List.map_nil]); first | done | rfl | (simp only [Int.toNat_natCast]; first | done | rfl) | (rw [Int.toNat_natCast, ByteArray.extract_zero_size]; rfl) | (simp only [List.length_drop, List.length_take]; rfl)) ?_
   with_reducible refine (weighbridgeref04_Num.calls 4 (wrap64 (a0_2)) t203 _ A17.out).mono ?_
   rintro e w30 ⟨rfl, hb⟩
   refine ⟨_, rfl, ?_⟩
   have n0_ := Aside0.mk (blkB BK200 hb)
   have n1_ := Aside0.mk (below_step (BW HB) hb)
   clear BK200
   clear HB
   have BK200 := n0_
   have HB := n1_
   clear n0_ n1_
   (try clear hb)
   (try clear hb2)
   (try clear hk)
   (try clear hi)
   refine hK.out _ _ ⟨(blk_cell BK200.out 0).trans rfl, (blk_cell BK200.out 1).trans rfl, (blk_cell BK200.out 2).trans rfl, (blk_cell BK200.out 3).trans rfl⟩ (fun hHeld => ?_)
   clear hK K
   refine norm_ (a' := ?_) ?_ ?_
   rotate_left
   ·show Act.put _ (some 39) _ = _
    simp only [Act.put, zpA, zpO, zpS, i64_w, i32_w]
    rfl
   refine pu 6 42 (bm 8 0x7f) HT_ ?_
   refine pu 7 5 (bm 8 0xff) HT_ ?_
   refine done_ (done_of HT_.out (by kernel_rfl)) ?_
   try go_wp2_with (first | ((with_reducible refine gate_callee (f := 42) rfl ?_); refine goesL_ (some 48) rfl rfl Try.func42 (by kernel_rfl) rfl #[.string (((t201 ++ t202) ++ (⟨#[0, 0]⟩ : ByteArray)) ++ (t203 ++ a0_3))] rfl AG ?_; (with_reducible refine (weighbridgeref03_Check.calls (((t201 ++ t202) ++ (⟨#[0, 0]⟩ : ByteArray)) ++ (t203 ++ a0_3)) t204 _ A21.out).mono ?_); rintro e w31 ⟨rfl, hb⟩; (try clear A21); refine ⟨_, rfl, ?_⟩; have n0_ := Aside0.mk (blkB BK200 hb); have n1_ := Aside0.mk (below_step (BW HB) hb); clear BK200; clear HB; have BK200 := n0_; have HB := n1_; clear n0_ n1_; (try clear hb)) | ((with_reducible refine gate_callee (f := 41) rfl ?_); refine goesL_ (some 50) rfl rfl Try.func41 (by kernel_rfl) rfl #[.int .i64 2, .int .i64 (wrap64 (t204))] rfl AG ?_; (with_reducible refine (weighbridgeref04_Num.calls 2 (wrap64 (t204)) t205 _ A22.out).mono ?_); rintro e w32 ⟨rfl, hb⟩; (try clear A22); refine ⟨_, rfl, ?_⟩; have n0_ := Aside0.mk (blkB BK200 hb); have n1_ := Aside0.mk (below_step (BW HB) hb); clear BK200; clear HB; have BK200 := n0_; have HB := n1_; clear n0_ n1_; (try clear hb)))
   go_ret2
   exact ⟨RT, BW HB⟩

theorem r7_wrap {n : Int} (h0 : -9223372036854775808 ≤ n) (h1 : n ≤ 9223372036854775807) : wrap64 n = n := by unfold wrap64; omega
def weighbridgeref07_Build.f (a0_0 a0_1 a0_2 : Int) (a0_3 : ByteArray) : Option (ByteArray × Int) := if 0 ≤ a0_2 ∧ a0_2 ≤ 4294967295 ∧ a0_3.size ≤ 140737488355328 then some (lb (Sp.icmpBuild a0_0 a0_1 a0_2 (bl a0_3)).1, (Sp.icmpBuild a0_0 a0_1 a0_2 (bl a0_3)).2) else none
theorem weighbridgeref07_Build_eq {a0_0 a0_1 a0_2 : Int} {a0_3 : ByteArray} (h0 : 0 ≤ a0_2 ∧ a0_2 ≤ 4294967295) (h1 : a0_3.size ≤ 140737488355328) : weighbridgeref07_Build.f a0_0 a0_1 a0_2 a0_3 = some (lb (Sp.icmpBuild a0_0 a0_1 a0_2 (bl a0_3)).1, (Sp.icmpBuild a0_0 a0_1 a0_2 (bl a0_3)).2) := by
 unfold weighbridgeref07_Build.f; exact if_pos ⟨h0.1, h0.2, h1⟩
theorem ref07_Build_no (a b c : Int) (s : ByteArray) (h : ¬ (Sp.fits 1 a = true ∧ Sp.fits 1 b = true)) : weighbridgeref07_Build_p.f 1 a b c s = some (lb [], 1) := by
 rw [Sp.fits1, Sp.fits1] at h
 unfold weighbridgeref07_Build_p.f
 simp only [weighbridgeref07_Build_p.j0]
 by_cases h1 : a < 0
 ·rw [if_pos h1, if_pos trivial]; rfl
 rw [if_neg h1]
 by_cases h2 : a > 255
 ·rw [if_pos h2, if_pos trivial]; rfl
 rw [if_neg h2]
 by_cases h3 : b < 0
 ·rw [if_pos h3, if_pos trivial]; rfl
 rw [if_neg h3, if_pos (decide_eq_true (by omega))]; rfl
theorem ref07_Build_yes (a b c : Int) (s : ByteArray) (ha : Sp.fits 1 a = true) (hb : Sp.fits 1 b = true) (hc : 0 ≤ c ∧ c ≤ 4294967295) (hs : s.size ≤ 140737488355328) :
  weighbridgeref07_Build_p.f 1 a b c s = some (lb (Sp.icmpBuild a b c (bl s)).1, (Sp.icmpBuild a b c (bl s)).2) := by
 have f := And.intro ha hb
 have h1 := Sp.fits1.1 ha
 have h2 := Sp.fits1.1 hb
 unfold weighbridgeref07_Build_p.f Sp.icmpBuild
 rw [if_neg (by omega), if_neg (by omega), if_neg (by omega), decide_eq_false (by omega), if_pos f, bl_length]
 simp only [weighbridgeref07_Build_p.j0]
 rw [if_neg (by decide), r7_wrap (n := 8 + (s.size : Int)) (by omega) (by omega)]
 by_cases hz : 8 + (s.size : Int) > 1500
 ·rw [if_pos hz, if_pos hz]; rfl
 have f4 : Sp.fits 4 c = true := Sp.fits_iff.2 ⟨by decide, by decide, hc.1, by show c < 256 ^ 4; omega⟩
 have hk := Sp.check_bounds (Sp.icmpBytes a b c (bl s) 0).1
 have hw : Sp.beBytes (1 : Int).toNat a ++ Sp.beBytes (1 : Int).toNat b ++ [0, 0] ++ (Sp.beBytes (4 : Int).toNat c ++ bl s) = (Sp.icmpBytes a b c (bl s) 0).1 := by
  rw [Sp.icmpBytes_yes f]; rw [← List.append_assoc]; rfl
 have l1 : ∀ x, (Sp.beBytes (1 : Int).toNat x).length = 1 := fun x => by rw [Sp.beBytes_length]; rfl
 have l2 : ∀ x, (Sp.beBytes (2 : Int).toNat x).length = 2 := fun x => by rw [Sp.beBytes_length]; rfl
 have l4 : ∀ x, (Sp.beBytes (4 : Int).toNat x).length = 4 := fun x => by rw [Sp.beBytes_length]; rfl
 rw [if_neg hz, if_neg hz, weighbridgeref04_Num_yes ha, Option.bind_some, weighbridgeref04_Num_yes hb, Option.bind_some, r7_wrap (n := c) (by omega) (by omega), weighbridgeref04_Num_yes f4]
 rw [show (⟨#[0, 0]⟩ : ByteArray) = lb [0, 0] from rfl, ← Sp.lb_bl s]
 simp only [Sp.bl_lb]
 rw [Sp.lb_append, if_pos (by rw [lb_size, lb_size, l1, l1]; decide), Option.bind_some, if_pos (by rw [lb_size, lb_size, bl_length, l4]; omega), if_pos (by rw [lb_size, List.length_append, l1, l1]; decide), Sp.lb_append, Sp.lb_append,
  if_pos (by rw [lb_size, lb_size, List.length_append, List.length_append, List.length_append, bl_length, l1, l1, l4]; simp; omega), Sp.lb_append, hw,
  weighbridgeref03_Check_eq (by rw [lb_size, Sp.icmpBytes_length f, bl_length]; omega), Option.bind_some, bl_lb, r7_wrap (by omega) (by omega), weighbridgeref04_Num_yes (Sp.fits2.2 hk), Option.bind_some,
  if_pos (by rw [lb_size, lb_size, List.length_append, l1, l1, l2]; decide), Sp.lb_append, if_pos (by rw [lb_size, lb_size, List.length_append, List.length_append, List.length_append, bl_length, l1, l1, l2, l4]; omega), Sp.lb_append]
 generalize Sp.check (Sp.icmpBytes a b c (bl s) 0).1 = ck
 rw [Sp.icmpBytes_yes f, ← List.append_assoc]; rfl
theorem weighbridgeref07_Build_ev (a0_0 a0_1 a0_2 : Int) (a0_3 : ByteArray) (r : ByteArray × Int) (h : weighbridgeref07_Build.f a0_0 a0_1 a0_2 a0_3 = some r) : ∃ k, weighbridgeref07_Build_p.f k a0_0 a0_1 a0_2 a0_3 = some r := by
 unfold weighbridgeref07_Build.f at h
 split at h
 case isFalse => cases h
 case isTrue hs =>
  rw [← h]
  refine ⟨1, ?_⟩
  by_cases hf : Sp.fits 1 a0_0 = true ∧ Sp.fits 1 a0_1 = true
  ·exact ref07_Build_yes a0_0 a0_1 a0_2 a0_3 hf.1 hf.2 ⟨hs.1, hs.2.1⟩ hs.2.2
  rw [ref07_Build_no _ _ _ _ hf]
  unfold Sp.icmpBuild
  rw [if_neg hf]

theorem weighbridgeref07_Build.calls (a0_0 : Int) (a0_1 : Int) (a0_2 : Int) (a0_3 : ByteArray) (r1 : ByteArray) (r2 : Int) (w : World) (h : weighbridgeref07_Build.f a0_0 a0_1 a0_2 a0_3 = some (r1, r2)) :
  Calls Try.prog 19 #[.agg #[.int .i64 a0_0, .int .i64 a0_1, .int .u32 a0_2, .string a0_3]] w fun e w' => e = .returned (.tuple #[.string r1, .int .i64 r2]) ∧ Below w.heap.size w w' := by
 obtain ⟨k, hk⟩ := weighbridgeref07_Build_ev a0_0 a0_1 a0_2 a0_3 _ h
 exact weighbridgeref07_Build_p.calls k a0_0 a0_1 a0_2 a0_3 r1 r2 w hk

def weighbridgeref07_Parse_p.T6 : Bool × List (List Nat × List Nat) := (true, [([], []), ([0], [0]), ([1], [1]), ([], []), ([3], [3]), ([4], [4]), ([], []), ([6], [6]), ([], []), ([8], [8]), ([2, 5, 7, 9], [2, 5, 7, 9]), ([10, 0, 1, 2, 3, 4, 5, 6, 7, 8, 9, 10], [10]), ([11, 0, 1, 2, 3, 4, 5, 6, 7, 8, 9, 10, 11], [])])
def weighbridgeref07_Parse_p.B6 : List Nat := [0, 1, 3, 0, 8, 24, 0, 64, 0, 256, 1023, 2047, 4095]
theorem weighbridgeref07_Parse_p.tab6 : rtab .any (opsOf Try.f101 6) = weighbridgeref07_Parse_p.T6 := by kernel_rfl
theorem weighbridgeref07_Parse_p.bits6 : waitsOk weighbridgeref07_Parse_p.T6.2 weighbridgeref07_Parse_p.B6 = true := by kernel_rfl
end Go.Proofs.Ytfnjohklmpiboaa.Pr
