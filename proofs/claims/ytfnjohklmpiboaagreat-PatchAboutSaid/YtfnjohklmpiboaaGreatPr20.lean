-- Written by a program of the session (wip/tools) out of the translation, over the kit's print; with pieces of the session's own.
import Derived.Test.YtfnjohklmpiboaaGreatPr0
import Derived.Test.YtfnjohklmpiboaaGreatPr3
import Derived.Test.YtfnjohklmpiboaaGreatPr4
import Derived.Test.YtfnjohklmpiboaaGreatPr5
import Derived.Test.YtfnjohklmpiboaaGreatPr6
import Derived.Test.YtfnjohklmpiboaaGreatPr7
import Derived.Test.YtfnjohklmpiboaaGreatPr19
namespace Go.Proofs.YtfnjohklmpiboaaGreat.Pr
open Go.RowKit Go.Proofs.YtfnjohklmpiboaaGreatW.PrintWords Go.Proofs.YtfnjohklmpiboaaGreatW.PrintLast Go.Proofs.YtfnjohklmpiboaaGreatW.PrintMore
attribute [local go_sem] max2_int min2_int max_two min_two max_three min_three max_four min_four   -- for this text's walks alone
set_option linter.unusedVariables false
set_option linter.unusedSimpArgs false
open Go.Proofs.YtfnjohklmpiboaaGreat.Sp
/-! ### weighbridgeref09_Classify: function 44 -/
def weighbridgeref09_Classify.j0 : Nat → ByteArray → ByteArray → Bool → Int → Int → Int → Int → Int → Int → Int → Int → ByteArray → Option (Int × Int × Int × Int × Int × Int × Int × Int × Int × Int × Int × Int × Int × Int × Int)
 | 0, _, _, _, _, _, _, _, _, _, _, _, _ => none
 | k + 1, x0, x5, x37, x392000, x392001, x392002, x392003, x392004, x392005, x392006, x392007, x392008 => if x37 = true then (some (0, 0, 0, 0, 0, 0, 0, 0, 0, 0, 0, 0, 0, 0, 8)) else ((weighbridgeref04_Sizes.f x0).bind fun bt392 => (if x392005 = 6 then ((weighbridgeref05_Parse.f x5).bind fun bt396 => (if bt396.2.2.2.2.2.2.2.2.2 = 0 then ((weighbridgeref08_Verify.f x392005 x392006 x392007 x5).bind fun t407 => (if t407 = 0 then (some (1, bt392.1, bt392.2.1, x392005, x392006, x392007, bt396.1, bt396.2.1, bt396.2.2.2.2.1, x392004, x392006, x392007, 0, 0, 0)) else (some (0, 0, 0, 0, 0, 0, 0, 0, 0, 0, 0, 0, 0, 0, t407)))) else (some (0, 0, 0, 0, 0, 0, 0, 0, 0, 0, 0, 0, 0, 0, bt396.2.2.2.2.2.2.2.2.2)))) else (if x392005 = 17 then ((weighbridgeref06_Parse.f x5).bind fun bt408 => (if bt408.2.2.2 = 0 then ((weighbridgeref08_Verify.f x392005 x392006 x392007 x5).bind fun t412 => (if t412 = 0 then (some (1, bt392.1, bt392.2.1, x392005, x392006, x392007, bt408.1, bt408.2.1, 0, x392004, x392006, x392007, 0, 0, 0)) else (some (0, 0, 0, 0, 0, 0, 0, 0, 0, 0, 0, 0, 0, 0, t412)))) else (some (0, 0, 0, 0, 0, 0, 0, 0, 0, 0, 0, 0, 0, 0, bt408.2.2.2)))) else (if x392005 = 1 then ((weighbridgeref09_about.f k 1 bt392.1 bt392.2.1 x392005 x392006 x392007 0 0 0 x392004 x392006 x392007 0 0 x5).bind fun bt413 => (some (bt413.1, bt413.2.1, bt413.2.2.1, bt413.2.2.2.1, bt413.2.2.2.2.1, bt413.2.2.2.2.2.1, bt413.2.2.2.2.2.2.1, bt413.2.2.2.2.2.2.2.1, bt413.2.2.2.2.2.2.2.2.1, bt413.2.2.2.2.2.2.2.2.2.1, bt413.2.2.2.2.2.2.2.2.2.2.1, bt413.2.2.2.2.2.2.2.2.2.2.2.1, bt413.2.2.2.2.2.2.2.2.2.2.2.2.1, bt413.2.2.2.2.2.2.2.2.2.2.2.2.2.1, bt413.2.2.2.2.2.2.2.2.2.2.2.2.2.2))) else (some (0, 0, 0, 0, 0, 0, 0, 0, 0, 0, 0, 0, 0, 0, 9))))))
def weighbridgeref09_Classify.f (k : Nat) (a0 : ByteArray) : Option (Int × Int × Int × Int × Int × Int × Int × Int × Int × Int × Int × Int × Int × Int × Int) := (weighbridgeref04_Parse.f a0).bind fun bt380 => (if bt380.2.2.2.2.2.2.2.2.2.2 = 0 then (if (Int.tmod bt380.2.2.1 2) = 1 then (weighbridgeref09_Classify.j0 k a0 bt380.2.2.2.2.2.2.2.2.2.1 true bt380.1 bt380.2.1 bt380.2.2.1 bt380.2.2.2.1 bt380.2.2.2.2.1 bt380.2.2.2.2.2.1 bt380.2.2.2.2.2.2.1 bt380.2.2.2.2.2.2.2.1 bt380.2.2.2.2.2.2.2.2.1) else (weighbridgeref09_Classify.j0 k a0 bt380.2.2.2.2.2.2.2.2.2.1 (bt380.2.2.2.1 != 0) bt380.1 bt380.2.1 bt380.2.2.1 bt380.2.2.2.1 bt380.2.2.2.2.1 bt380.2.2.2.2.2.1 bt380.2.2.2.2.2.2.1 bt380.2.2.2.2.2.2.2.1 bt380.2.2.2.2.2.2.2.2.1)) else (some (0, 0, 0, 0, 0, 0, 0, 0, 0, 0, 0, 0, 0, 0, bt380.2.2.2.2.2.2.2.2.2.2)))
theorem weighbridgeref09_Classify.mono_l : ∀ k, (∀ y0 y1 y2 y3 y4 y5 y6 y7 y8 y9 y10 y11, LeO (weighbridgeref09_Classify.j0 k y0 y1 y2 y3 y4 y5 y6 y7 y8 y9 y10 y11) (weighbridgeref09_Classify.j0 (k + 1) y0 y1 y2 y3 y4 y5 y6 y7 y8 y9 y10 y11))
 | 0 => fun _ _ _ _ _ _ _ _ _ _ _ _ r h => by simp [weighbridgeref09_Classify.j0] at h
 | k + 1 => by
  have ih0 := weighbridgeref09_Classify.mono_l k
  ·intro y0 y1 y2 y3 y4 y5 y6 y7 y8 y9 y10 y11
   unfold weighbridgeref09_Classify.j0
   repeat' first
   | (with_reducible exact ih0 _ _ _ _ _ _ _ _ _ _ _ _)
   | (with_reducible exact weighbridgeref09_about.mono _ _ _ _ _ _ _ _ _ _ _ _ _ _ _ _)
   | (with_reducible exact LeO.refl _)
   | (with_reducible exact LeO.none _)
   | (with_reducible refine LeO.ite ?_ ?_)
   | (with_reducible refine LeO.bind ?_ (fun _ => ?_))
   | exact ih0 _ _ _ _ _ _ _ _ _ _ _ _
   | exact weighbridgeref09_about.mono _ _ _ _ _ _ _ _ _ _ _ _ _ _ _ _
   | exact LeO.none _
   | refine LeO.ite ?_ ?_
   | refine LeO.bind ?_ (fun _ => ?_)
theorem weighbridgeref09_Classify.mono : ∀ a0 k, LeO (weighbridgeref09_Classify.f k a0) (weighbridgeref09_Classify.f (k + 1) a0) := by
 intro a0 k
 have ih0 := weighbridgeref09_Classify.mono_l k
 unfold weighbridgeref09_Classify.f
 repeat' first
   | (with_reducible exact ih0 _ _ _ _ _ _ _ _ _ _ _ _)
   | (with_reducible exact weighbridgeref09_about.mono _ _ _ _ _ _ _ _ _ _ _ _ _ _ _ _)
   | (with_reducible exact LeO.refl _)
   | (with_reducible exact LeO.none _)
   | (with_reducible refine LeO.ite ?_ ?_)
   | (with_reducible refine LeO.bind ?_ (fun _ => ?_))
   | exact ih0 _ _ _ _ _ _ _ _ _ _ _ _
   | exact weighbridgeref09_about.mono _ _ _ _ _ _ _ _ _ _ _ _ _ _ _ _
   | exact LeO.none _
   | refine LeO.ite ?_ ?_
   | refine LeO.bind ?_ (fun _ => ?_)
set_option maxHeartbeats 8000000 in
set_option maxRecDepth 100000 in
theorem weighbridgeref09_Classify.calls (k : Nat) (a0 : ByteArray) (r1 : Int) (r2 : Int) (r3 : Int) (r4 : Int) (r5 : Int) (r6 : Int) (r7 : Int) (r8 : Int) (r9 : Int) (r10 : Int) (r11 : Int) (r12 : Int) (r13 : Int) (r14 : Int) (r15 : Int) (w : World) (h : weighbridgeref09_Classify.f k a0 = some (r1, r2, r3, r4, r5, r6, r7, r8, r9, r10, r11, r12, r13, r14, r15)) :
  Calls Tryz.prog 44 #[.string a0] w fun e w' => e = .returned (.tuple #[.agg #[.int .i64 r1, .int .i64 r2, .int .i64 r3, .int .i64 r4, .int .u32 r5, .int .u32 r6, .int .i64 r7, .int .i64 r8, .int .i64 r9, .int .i64 r10, .int .u32 r11, .int .u32 r12, .int .i64 r13, .int .i64 r14], .int .i64 r15]) ∧ Below w.heap.size w w' := by
 have hu65 := Tryz.underlying65
 have hu43 := Tryz.underlying43
 have hu49 := Tryz.underlying49
 have hu80 := Tryz.underlying80
 have HB := AA (Below.refl w.heap.size w)
 have H := h
 unfold weighbridgeref09_Classify.f at H
 clear h
 replace H := OB H
 obtain ⟨⟨t380, t381, t382, t383, t384, t385, t386, t387, t388, t389, t390⟩, A2, H⟩ := H
 (try set_option simprocs false in dsimp only at H)
 by_cases c3 : t390 = 0
 rotate_left
 ·rw [if_neg c3] at H
  have c3b0 := BF c3
  have c3b1 := NT c3
  simp only [Option.some.injEq, Prod.mk.injEq] at H
  obtain ⟨rfl, rfl, rfl, rfl, rfl, rfl, rfl, rfl, rfl, rfl, rfl, rfl, rfl, rfl, rfl⟩ := H
  go_enter Tryz.func44, Tryz.ntmps44
  go_wp2_with (first | ((with_reducible refine gate_dst (N := 2) rfl ?_); refine bx 2 65 (rr14 0 0 0 0 0 0 0 0 0 0 0 0 0 0) ?_; intro gb379 hg w124 hbox hb; have BK379 := AA hbox; have GW379 := GS hg HB; have GE379 := GS hg HB; replace HB := BS HB hb; clear hb hbox hg) | ((with_reducible refine gkx 65 rfl ?_); refine gL 21 Tryz.func65 rfl (weighbridgeref04_Parse.calls a0 t380 t381 t382 t383 t384 t385 t386 t387 t388 t389 t390 _ A2.out) ?_; rintro w125 hb; (try clear A2); replace BK379 := AA (blk_below (g := gb379) (o := .cells (rr14 0 0 0 0 0 0 0 0 0 0 0 0 0 0) 65 (0, 0)) (BD BK379) hb); replace HB := BS HB hb; (try clear hb)) | ((with_reducible refine gate_dst (N := 4) rfl ?_); refine bx 4 43 (rr9 0 0 0 0 0 0 0 0 (⟨#[]⟩ : ByteArray)) ?_; intro gb391 hg w126 hbox hb; have BK391 := AA hbox; have GW391 := GS hg HB; have GE391 := GS hg HB; replace HB := BS HB hb; have NB379_391 := AA (by rw [hg]; exact Nat.ne_of_lt (blk_lt (g := gb379) (o := .cells (rr14 0 0 0 0 0 0 0 0 0 0 0 0 0 0) 65 (0, 0)) (BD BK379)) : gb379 ≠ gb391); have NB391_379 := AA (by rw [hg]; exact Nat.ne_of_gt (blk_lt (g := gb379) (o := .cells (rr14 0 0 0 0 0 0 0 0 0 0 0 0 0 0) 65 (0, 0)) (BD BK379)) : gb391 ≠ gb379); replace BK379 := AA (blk_below (g := gb379) (o := .cells (rr14 0 0 0 0 0 0 0 0 0 0 0 0 0 0) 65 (0, 0)) (BD BK379) hb); clear hb hbox hg; have hnb127 := NB391_379.out; have hnc127 := NB379_391.out; have hz128 := blk9 BK391.out; have hz129 := blk14 BK379.out))
  refine bodyPost_ret (results_ct rfl _ _ gb379 65 #[.int .i64 0, .int .i64 0, .int .i64 0, .int .i64 0, .int .u32 0, .int .u32 0, .int .i64 0, .int .i64 0, .int .i64 0, .int .i64 0, .int .u32 0, .int .u32 0, .int .i64 0, .int .i64 0] (0, 0) _ rfl (BE BK379) Tryz.underlying65 rfl (by kernel_rfl)) rfl ?_
  exact ⟨RT, BW HB⟩
 rw [if_pos c3] at H
 have c3b0 := BT c3
 have c3b1 := NF c3
 clear c3
 have HC4 := AA H
 clear H
 go_enter Tryz.func44, Tryz.ntmps44
 go_upto_region 4 with (first | ((with_reducible refine gate_dst (N := 2) rfl ?_); refine bx 2 65 (rr14 0 0 0 0 0 0 0 0 0 0 0 0 0 0) ?_; intro gb379 hg w5 hbox hb; have BK379 := AA hbox; have GW379 := GS hg HB; have GE379 := GS hg HB; replace HB := BS HB hb; clear hb hbox hg) | ((with_reducible refine gkx 65 rfl ?_); refine gL 21 Tryz.func65 rfl (weighbridgeref04_Parse.calls a0 t380 t381 t382 t383 t384 t385 t386 t387 t388 t389 t390 _ A2.out) ?_; rintro w6 hb; replace BK379 := AA (blk_below (g := gb379) (o := .cells (rr14 0 0 0 0 0 0 0 0 0 0 0 0 0 0) 65 (0, 0)) (BD BK379) hb); replace HB := BS HB hb; (try clear hb)) | ((with_reducible refine gate_dst (N := 4) rfl ?_); refine bx 4 43 (rr9 0 0 0 0 0 0 0 0 (⟨#[]⟩ : ByteArray)) ?_; intro gb391 hg w7 hbox hb; have BK391 := AA hbox; have GW391 := GS hg HB; have GE391 := GS hg HB; replace HB := BS HB hb; have NB379_391 := AA (by rw [hg]; exact Nat.ne_of_lt (blk_lt (g := gb379) (o := .cells (rr14 0 0 0 0 0 0 0 0 0 0 0 0 0 0) 65 (0, 0)) (BD BK379)) : gb379 ≠ gb391); have NB391_379 := AA (by rw [hg]; exact Nat.ne_of_gt (blk_lt (g := gb379) (o := .cells (rr14 0 0 0 0 0 0 0 0 0 0 0 0 0 0) 65 (0, 0)) (BD BK379)) : gb391 ≠ gb379); replace BK379 := AA (blk_below (g := gb379) (o := .cells (rr14 0 0 0 0 0 0 0 0 0 0 0 0 0 0) 65 (0, 0)) (BD BK379) hb); clear hb hbox hg; have hnb8 := NB391_379.out; have hnc8 := NB379_391.out; have hz9 := blk9 BK391.out))
 (try simp only [Act.put, List.setIfInBounds_toArray, List.set_cons_zero, List.set_cons_succ])
 go_cut [37] (fun v37 wc => ∃ (kq : Nat) (x37_3 : Bool), v37 = .bool x37_3 ∧ Aside0 (weighbridgeref09_Classify.j0 kq a0 t389 x37_3 t380 t381 t382 t383 t384 t385 t386 t387 t388 = some (r1, r2, r3, r4, r5, r6, r7, r8, r9, r10, r11, r12, r13, r14, r15)) ∧ Aside0 (kq ≤ k) ∧ Aside0 (wc.heap[gb379]? = some (.cells (rr14 0 0 0 0 0 0 0 0 0 0 0 0 0 0) 65 (0, 0))) ∧ Aside0 (wc.heap[gb391]? = some (.cells (rr9 t380 t381 t382 t383 t384 t385 t386 t387 t388) 43 (0, 0))) ∧ Aside0 (Below w.heap.size w wc))
 case first =>
  have H := HC4.out
  clear HC4
  by_cases c10 : (Int.tmod t382 2) = 1
  ·rw [if_pos c10] at H
   have c10b0 := BT c10
   have c10b1 := NF c10
   clear c10
   (first | rw [c10b0] | (simp only [i64_w, i32_w]; rw [c10b0]) | skip)
   have H' := AA H
   clear H
   have hnb11 := NB391_379.out
   have hnc11 := NB379_391.out
   have hz12 := blk9 BK391.out
   go_wp2
   go_meet
   case rel => exact ⟨_, (true), (by first | rfl | (simp; done) | (congr 2; simp only [ByteArray.size_extract, ByteArray.size_append]; have : (⟨#[]⟩ : ByteArray).size = 0 := rfl; (try unfold wrap64); omega) | (simp only [ByteArray.size_extract, ByteArray.size_append, Nat.sub_zero]; done) | (congr 1; simp only [ByteArray.size_extract, ByteArray.size_append, Nat.sub_zero]; have : (⟨#[]⟩ : ByteArray).size = 0 := rfl; omega) | (simp [*]; done)), H', LR, ⟨BE BK379⟩, ⟨BE BK391⟩, ⟨BW HB⟩⟩
  rw [if_neg c10] at H
  have c10b0 := BF c10
  have c10b1 := NT c10
  (first | rw [c10b0] | (simp only [i64_w, i32_w]; rw [c10b0]) | skip)
  have H' := AA H
  clear H
  have hnb13 := NB391_379.out
  have hnc13 := NB379_391.out
  have hz14 := blk9 BK391.out
  go_wp2
  go_meet
  case rel => exact ⟨_, ((t383 != 0)), (by first | rfl | (simp; done) | (congr 2; simp only [ByteArray.size_extract, ByteArray.size_append]; have : (⟨#[]⟩ : ByteArray).size = 0 := rfl; (try unfold wrap64); omega) | (simp only [ByteArray.size_extract, ByteArray.size_append, Nat.sub_zero]; done) | (congr 1; simp only [ByteArray.size_extract, ByteArray.size_append, Nat.sub_zero]; have : (⟨#[]⟩ : ByteArray).size = 0 := rfl; omega) | (simp [*]; done)), H', LR, ⟨BE BK379⟩, ⟨BE BK391⟩, ⟨BW HB⟩⟩
 case rest =>
  clear HC4
  try clear c1; try clear p2; try clear c3; try clear c3b0; try clear c3b1; try clear c4; try clear c6; try clear c8; try clear c10; try clear c10b0; try clear c10b1; try clear c11; try clear c13; try clear hz12; try clear hz14; try clear hz9
  obtain ⟨kq, x37_3, rfl, HA, HJ3, BK379, BK391, HB⟩ := hcut
  cases kq with
  | zero => exact absurd HA.out (by simp [weighbridgeref09_Classify.j0])
  | succ kj3 =>
   have H := HA.out
   clear HA
   simp only [weighbridgeref09_Classify.j0] at H
   by_cases c15 : x37_3 = true
   ·subst c15
    first | rw [if_pos rfl] at H | rw [if_pos trivial] at H
    simp only [Option.some.injEq, Prod.mk.injEq] at H
    obtain ⟨rfl, rfl, rfl, rfl, rfl, rfl, rfl, rfl, rfl, rfl, rfl, rfl, rfl, rfl, rfl⟩ := H
    have hnb16 := NB379_391.out
    have hnc16 := NB391_379.out
    have hz17 := blk14 BK379.out
    go_wp2
    refine bodyPost_ret (results_ct rfl _ _ gb379 65 #[.int .i64 0, .int .i64 0, .int .i64 0, .int .i64 0, .int .u32 0, .int .u32 0, .int .i64 0, .int .i64 0, .int .i64 0, .int .i64 0, .int .u32 0, .int .u32 0, .int .i64 0, .int .i64 0] (0, 0) _ rfl (BE BK379) Tryz.underlying65 rfl (by kernel_rfl)) rfl ?_
    exact ⟨RT, BW HB⟩
   replace c15 := Bool.eq_false_iff.mpr c15
   subst c15
   replace H := IFN H
   replace H := OB H
   obtain ⟨⟨t392, t393, t394⟩, A18, H⟩ := H
   (try set_option simprocs false in dsimp only at H)
   go_upto_region 10 with (first | ((with_reducible refine gkx 66 rfl ?_); refine gL 41 Tryz.func66 rfl (weighbridgeref04_Sizes.calls a0 t392 t393 t394 _ A18.out) ?_; rintro w' ⟨nd, rfl⟩; (try (rw [drewN_self wc]; generalize hq_ : World.drewN wc _ = wc; have n0_ : Aside0 (wc.heap[gb379]? = some (.cells (rr14 0 0 0 0 0 0 0 0 0 0 0 0 0 0) 65 (0, 0))) := ⟨by rw [← hq_]; exact (BD BK379)⟩; have n1_ : Aside0 (wc.heap[gb391]? = some (.cells (rr9 t380 t381 t382 t383 t384 t385 t386 t387 t388) 43 (0, 0))) := ⟨by rw [← hq_]; exact (BD BK391)⟩; have n2_ : Aside0 (Below w.heap.size w wc) := ⟨by rw [← hq_]; exact (BW HB)⟩; clear BK379 BK391 HB hq_; have BK379 := n0_; have BK391 := n1_; have HB := n2_; clear n0_ n1_ n2_)); have hnb24 := NB391_379.out; have hnc24 := NB379_391.out; have hz25 := blk9 BK391.out) | ((with_reducible refine gate_dst (N := 10) rfl ?_); refine bx 10 65 (rr14 0 0 0 0 0 0 0 0 0 0 0 0 0 0) ?_; intro gb395 hg w26 hbox hb; have BK395 := AA hbox; have GW395 := GS hg HB; have GE395 := GS hg HB; replace HB := BS HB hb; have NB379_395 := AA (by rw [hg]; exact Nat.ne_of_lt (blk_lt (g := gb379) (o := .cells (rr14 0 0 0 0 0 0 0 0 0 0 0 0 0 0) 65 (0, 0)) (BD BK379)) : gb379 ≠ gb395); have NB395_379 := AA (by rw [hg]; exact Nat.ne_of_gt (blk_lt (g := gb379) (o := .cells (rr14 0 0 0 0 0 0 0 0 0 0 0 0 0 0) 65 (0, 0)) (BD BK379)) : gb395 ≠ gb379); replace BK379 := AA (blk_below (g := gb379) (o := .cells (rr14 0 0 0 0 0 0 0 0 0 0 0 0 0 0) 65 (0, 0)) (BD BK379) hb); have NB391_395 := AA (by rw [hg]; exact Nat.ne_of_lt (blk_lt (g := gb391) (o := .cells (rr9 t380 t381 t382 t383 t384 t385 t386 t387 t388) 43 (0, 0)) (BD BK391)) : gb391 ≠ gb395); have NB395_391 := AA (by rw [hg]; exact Nat.ne_of_gt (blk_lt (g := gb391) (o := .cells (rr9 t380 t381 t382 t383 t384 t385 t386 t387 t388) 43 (0, 0)) (BD BK391)) : gb395 ≠ gb391); replace BK391 := AA (blk_below (g := gb391) (o := .cells (rr9 t380 t381 t382 t383 t384 t385 t386 t387 t388) 43 (0, 0)) (BD BK391) hb); clear hb hbox hg; have hnb27 := NB395_379.out; have hnc27 := NB379_395.out; have hnb28 := NB395_391.out; have hnc28 := NB391_395.out; have hz29 := blk14 BK395.out; have hz30 := blk9 BK391.out))
   by_cases c19 : t385 = 6
   ·rw [if_pos c19] at H
    have c19b0 := BT c19
    have c19b1 := NF c19
    clear c19
    replace H := OB H
    obtain ⟨⟨t396, t397, t398, t399, t400, t401, t402, t403, t404, t405⟩, A20, H⟩ := H
    (try set_option simprocs false in dsimp only at H)
    go_upto_if 73 with (first | ((with_reducible refine gkx 67 rfl ?_); refine gL 68 Tryz.func67 rfl (weighbridgeref05_Parse.calls t389 t396 t397 t398 t399 t400 t401 t402 t403 t404 t405 _ A20.out) ?_; rintro w31 hb; (try clear A20); replace BK379 := AA (blk_below (g := gb379) (o := .cells (rr14 0 0 0 0 0 0 0 0 0 0 0 0 0 0) 65 (0, 0)) (BE BK379) hb); replace BK391 := AA (blk_below (g := gb391) (o := .cells (rr9 t380 t381 t382 t383 t384 t385 t386 t387 t388) 43 (0, 0)) (BE BK391) hb); replace BK395 := AA (blk_below (g := gb395) (o := .cells (rr14 1 t392 t393 t385 t386 t387 0 0 0 t384 t386 t387 0 0) 65 (0, 0)) (BE BK395) hb); replace HB := BS HB hb; (try clear hb)) | ((with_reducible refine gate_dst (N := 11) rfl ?_); refine bx 11 80 (rr8 0 0 0 0 0 0 0 (⟨#[]⟩ : ByteArray)) ?_; intro gb406 hg w32 hbox hb; have BK406 := AA hbox; have GW406 := GS hg HB; have GE406 := GS hg HB; replace HB := BS HB hb; have NB379_406 := AA (by rw [hg]; exact Nat.ne_of_lt (blk_lt (g := gb379) (o := .cells (rr14 0 0 0 0 0 0 0 0 0 0 0 0 0 0) 65 (0, 0)) (BD BK379)) : gb379 ≠ gb406); have NB406_379 := AA (by rw [hg]; exact Nat.ne_of_gt (blk_lt (g := gb379) (o := .cells (rr14 0 0 0 0 0 0 0 0 0 0 0 0 0 0) 65 (0, 0)) (BD BK379)) : gb406 ≠ gb379); replace BK379 := AA (blk_below (g := gb379) (o := .cells (rr14 0 0 0 0 0 0 0 0 0 0 0 0 0 0) 65 (0, 0)) (BD BK379) hb); have NB391_406 := AA (by rw [hg]; exact Nat.ne_of_lt (blk_lt (g := gb391) (o := .cells (rr9 t380 t381 t382 t383 t384 t385 t386 t387 t388) 43 (0, 0)) (BD BK391)) : gb391 ≠ gb406); have NB406_391 := AA (by rw [hg]; exact Nat.ne_of_gt (blk_lt (g := gb391) (o := .cells (rr9 t380 t381 t382 t383 t384 t385 t386 t387 t388) 43 (0, 0)) (BD BK391)) : gb406 ≠ gb391); replace BK391 := AA (blk_below (g := gb391) (o := .cells (rr9 t380 t381 t382 t383 t384 t385 t386 t387 t388) 43 (0, 0)) (BD BK391) hb); have NB395_406 := AA (by rw [hg]; exact Nat.ne_of_lt (blk_lt (g := gb395) (o := .cells (rr14 1 t392 t393 t385 t386 t387 0 0 0 t384 t386 t387 0 0) 65 (0, 0)) (BD BK395)) : gb395 ≠ gb406); have NB406_395 := AA (by rw [hg]; exact Nat.ne_of_gt (blk_lt (g := gb395) (o := .cells (rr14 1 t392 t393 t385 t386 t387 0 0 0 t384 t386 t387 0 0) 65 (0, 0)) (BD BK395)) : gb406 ≠ gb395); replace BK395 := AA (blk_below (g := gb395) (o := .cells (rr14 1 t392 t393 t385 t386 t387 0 0 0 t384 t386 t387 0 0) 65 (0, 0)) (BD BK395) hb); clear hb hbox hg; have hnb33 := NB406_379.out; have hnc33 := NB379_406.out; have hnb34 := NB406_391.out; have hnc34 := NB391_406.out; have hnb35 := NB406_395.out; have hnc35 := NB395_406.out; have hz36 := blk8 BK406.out; have hz37 := blk14 BK395.out; have hz38 := blk9 BK391.out))
    by_cases c21 : t405 = 0
    ·rw [if_pos c21] at H
     have c21b0 := BT c21
     have c21b1 := NF c21
     clear c21
     replace H := OB H
     obtain ⟨t407, A22, H⟩ := H
     (try set_option simprocs false in dsimp only at H)
     by_cases c23 : t407 = 0
     ·rw [if_pos c23] at H
      have c23b0 := BT c23
      have c23b1 := NF c23
      clear c23
      simp only [Option.some.injEq, Prod.mk.injEq] at H
      obtain ⟨rfl, rfl, rfl, rfl, rfl, rfl, rfl, rfl, rfl, rfl, rfl, rfl, rfl, rfl, rfl⟩ := H
      go_wp2_with (first | ((with_reducible refine gkx 70 rfl ?_); refine gL 120 Tryz.func70 rfl (weighbridgeref08_Verify.calls t385 t386 t387 t389 t407 _ A22.out) ?_; rintro w39 hb; (try clear A22); replace BK379 := AA (blk_below (g := gb379) (o := .cells (rr14 0 0 0 0 0 0 0 0 0 0 0 0 0 0) 65 (0, 0)) (BE BK379) hb); replace BK391 := AA (blk_below (g := gb391) (o := .cells (rr9 t380 t381 t382 t383 t384 t385 t386 t387 t388) 43 (0, 0)) (BE BK391) hb); replace BK395 := AA (blk_below (g := gb395) (o := .cells (rr14 1 t392 t393 t385 t386 t387 t396 t397 t400 t384 t386 t387 0 0) 65 (0, 0)) (BE BK395) hb); replace BK406 := AA (blk_below (g := gb406) (o := .cells (rr8 t396 t397 t398 t399 t400 t401 t402 t403) 80 (0, 0)) (BE BK406) hb); replace HB := BS HB hb; (try clear hb); have hz40 := blk14 BK395.out; have hz41 := blk14 BK379.out))
      refine bodyPost_ret (results_ct rfl _ _ gb379 65 #[.int .i64 1, .int .i64 t392, .int .i64 t393, .int .i64 t385, .int .u32 t386, .int .u32 t387, .int .i64 t396, .int .i64 t397, .int .i64 t400, .int .i64 t384, .int .u32 t386, .int .u32 t387, .int .i64 0, .int .i64 0] (0, 0) _ rfl (BE BK379) Tryz.underlying65 rfl (by kernel_rfl)) rfl ?_
      exact ⟨RT, BW HB⟩
     rw [if_neg c23] at H
     have c23b0 := BF c23
     have c23b1 := NT c23
     simp only [Option.some.injEq, Prod.mk.injEq] at H
     obtain ⟨rfl, rfl, rfl, rfl, rfl, rfl, rfl, rfl, rfl, rfl, rfl, rfl, rfl, rfl, rfl⟩ := H
     go_wp2_with (first | ((with_reducible refine gkx 70 rfl ?_); refine gL 120 Tryz.func70 rfl (weighbridgeref08_Verify.calls t385 t386 t387 t389 t407 _ A22.out) ?_; rintro w57 hb; (try clear A22); replace BK379 := AA (blk_below (g := gb379) (o := .cells (rr14 0 0 0 0 0 0 0 0 0 0 0 0 0 0) 65 (0, 0)) (BE BK379) hb); replace BK391 := AA (blk_below (g := gb391) (o := .cells (rr9 t380 t381 t382 t383 t384 t385 t386 t387 t388) 43 (0, 0)) (BE BK391) hb); replace BK395 := AA (blk_below (g := gb395) (o := .cells (rr14 1 t392 t393 t385 t386 t387 t396 t397 t400 t384 t386 t387 0 0) 65 (0, 0)) (BE BK395) hb); replace BK406 := AA (blk_below (g := gb406) (o := .cells (rr8 t396 t397 t398 t399 t400 t401 t402 t403) 80 (0, 0)) (BE BK406) hb); replace HB := BS HB hb; (try clear hb); have hz58 := blk14 BK379.out))
     refine bodyPost_ret (results_ct rfl _ _ gb379 65 #[.int .i64 0, .int .i64 0, .int .i64 0, .int .i64 0, .int .u32 0, .int .u32 0, .int .i64 0, .int .i64 0, .int .i64 0, .int .i64 0, .int .u32 0, .int .u32 0, .int .i64 0, .int .i64 0] (0, 0) _ rfl (BE BK379) Tryz.underlying65 rfl (by kernel_rfl)) rfl ?_
     exact ⟨RT, BW HB⟩
    rw [if_neg c21] at H
    have c21b0 := BF c21
    have c21b1 := NT c21
    simp only [Option.some.injEq, Prod.mk.injEq] at H
    obtain ⟨rfl, rfl, rfl, rfl, rfl, rfl, rfl, rfl, rfl, rfl, rfl, rfl, rfl, rfl, rfl⟩ := H
    obtain ⟨zz0, zz1, zz2, zz3, zz4, zz5, zz6, zz7, zz8, zz9, zz10, zz11, zz12, zz13, yy0, yy1, yy2, yy3, yy4, yy5, yy6, yy7, yy8, yy9, yy10, yy11, yy12, yy13⟩ := blk14 BK379.out
    go_wp2_with (fail)
    refine bodyPost_ret (results_ct rfl _ _ gb379 65 #[.int .i64 0, .int .i64 0, .int .i64 0, .int .i64 0, .int .u32 0, .int .u32 0, .int .i64 0, .int .i64 0, .int .i64 0, .int .i64 0, .int .u32 0, .int .u32 0, .int .i64 0, .int .i64 0] (0, 0) _ rfl (BE BK379) Tryz.underlying65 rfl (by kernel_rfl)) rfl ?_
    exact ⟨RT, BW HB⟩
   rw [if_neg c19] at H
   have c19b0 := BF c19
   have c19b1 := NT c19
   by_cases c73 : t385 = 17
   ·rw [if_pos c73] at H
    have c73b0 := BT c73
    have c73b1 := NF c73
    clear c73
    replace H := OB H
    obtain ⟨⟨t408, t409, t410, t411⟩, A74, H⟩ := H
    (try set_option simprocs false in dsimp only at H)
    by_cases c75 : t411 = 0
    ·rw [if_pos c75] at H
     have c75b0 := BT c75
     have c75b1 := NF c75
     clear c75
     replace H := OB H
     obtain ⟨t412, A76, H⟩ := H
     (try set_option simprocs false in dsimp only at H)
     by_cases c77 : t412 = 0
     ·rw [if_pos c77] at H
      have c77b0 := BT c77
      have c77b1 := NF c77
      clear c77
      simp only [Option.some.injEq, Prod.mk.injEq] at H
      obtain ⟨rfl, rfl, rfl, rfl, rfl, rfl, rfl, rfl, rfl, rfl, rfl, rfl, rfl, rfl, rfl⟩ := H
      go_wp2_with (first | ((with_reducible refine gkx 68 rfl ?_); refine gL 91 Tryz.func68 rfl (weighbridgeref06_Parse.calls t389 t408 t409 t410 t411 _ A74.out) ?_; rintro w' ⟨nd, rfl⟩) | ((with_reducible refine gkx 70 rfl ?_); refine gL 120 Tryz.func70 rfl (weighbridgeref08_Verify.calls t385 t386 t387 t389 t412 _ A76.out) ?_; rintro w85 hb; (try clear A76); replace BK379 := AA (blk_below (g := gb379) (o := .cells (rr14 0 0 0 0 0 0 0 0 0 0 0 0 0 0) 65 (0, 0)) (BE BK379) hb); replace BK391 := AA (blk_below (g := gb391) (o := .cells (rr9 t380 t381 t382 t383 t384 t385 t386 t387 t388) 43 (0, 0)) (BE BK391) hb); replace BK395 := AA (blk_below (g := gb395) (o := .cells (rr14 1 t392 t393 t385 t386 t387 t408 t409 0 t384 t386 t387 0 0) 65 (0, 0)) (BE BK395) hb); replace HB := BS HB hb; (try clear hb); have hz86 := blk14 BK395.out; have hz87 := blk14 BK379.out))
      refine bodyPost_ret (results_ct rfl _ _ gb379 65 #[.int .i64 1, .int .i64 t392, .int .i64 t393, .int .i64 t385, .int .u32 t386, .int .u32 t387, .int .i64 t408, .int .i64 t409, .int .i64 0, .int .i64 t384, .int .u32 t386, .int .u32 t387, .int .i64 0, .int .i64 0] (0, 0) _ rfl (BE BK379) Tryz.underlying65 rfl (by kernel_rfl)) rfl ?_
      exact ⟨RT, BW HB⟩
     rw [if_neg c77] at H
     have c77b0 := BF c77
     have c77b1 := NT c77
     simp only [Option.some.injEq, Prod.mk.injEq] at H
     obtain ⟨rfl, rfl, rfl, rfl, rfl, rfl, rfl, rfl, rfl, rfl, rfl, rfl, rfl, rfl, rfl⟩ := H
     go_wp2_with (first | ((with_reducible refine gkx 68 rfl ?_); refine gL 91 Tryz.func68 rfl (weighbridgeref06_Parse.calls t389 t408 t409 t410 t411 _ A74.out) ?_; rintro w' ⟨nd, rfl⟩) | ((with_reducible refine gkx 70 rfl ?_); refine gL 120 Tryz.func70 rfl (weighbridgeref08_Verify.calls t385 t386 t387 t389 t412 _ A76.out) ?_; rintro w95 hb; (try clear A76); replace BK379 := AA (blk_below (g := gb379) (o := .cells (rr14 0 0 0 0 0 0 0 0 0 0 0 0 0 0) 65 (0, 0)) (BE BK379) hb); replace BK391 := AA (blk_below (g := gb391) (o := .cells (rr9 t380 t381 t382 t383 t384 t385 t386 t387 t388) 43 (0, 0)) (BE BK391) hb); replace BK395 := AA (blk_below (g := gb395) (o := .cells (rr14 1 t392 t393 t385 t386 t387 t408 t409 0 t384 t386 t387 0 0) 65 (0, 0)) (BE BK395) hb); replace HB := BS HB hb; (try clear hb); have hz96 := blk14 BK379.out))
     refine bodyPost_ret (results_ct rfl _ _ gb379 65 #[.int .i64 0, .int .i64 0, .int .i64 0, .int .i64 0, .int .u32 0, .int .u32 0, .int .i64 0, .int .i64 0, .int .i64 0, .int .i64 0, .int .u32 0, .int .u32 0, .int .i64 0, .int .i64 0] (0, 0) _ rfl (BE BK379) Tryz.underlying65 rfl (by kernel_rfl)) rfl ?_
     exact ⟨RT, BW HB⟩
    rw [if_neg c75] at H
    have c75b0 := BF c75
    have c75b1 := NT c75
    simp only [Option.some.injEq, Prod.mk.injEq] at H
    obtain ⟨rfl, rfl, rfl, rfl, rfl, rfl, rfl, rfl, rfl, rfl, rfl, rfl, rfl, rfl, rfl⟩ := H
    go_wp2_with (first | ((with_reducible refine gkx 68 rfl ?_); refine gL 91 Tryz.func68 rfl (weighbridgeref06_Parse.calls t389 t408 t409 t410 t411 _ A74.out) ?_; rintro w' ⟨nd, rfl⟩; have hz104 := blk14 BK379.out))
    refine bodyPost_ret (results_ct rfl _ _ gb379 65 #[.int .i64 0, .int .i64 0, .int .i64 0, .int .i64 0, .int .u32 0, .int .u32 0, .int .i64 0, .int .i64 0, .int .i64 0, .int .i64 0, .int .u32 0, .int .u32 0, .int .i64 0, .int .i64 0] (0, 0) _ rfl (BE BK379) Tryz.underlying65 rfl (by kernel_rfl)) rfl ?_
    exact ⟨RT, BW HB⟩
   rw [if_neg c73] at H
   have c73b0 := BF c73
   have c73b1 := NT c73
   by_cases c105 : t385 = 1
   ·rw [if_pos c105] at H
    have c105b0 := BT c105
    have c105b1 := NF c105
    clear c105
    replace H := OB H
    obtain ⟨⟨t413, t414, t415, t416, t417, t418, t419, t420, t421, t422, t423, t424, t425, t426, t427⟩, A106, H⟩ := H
    (try set_option simprocs false in dsimp only at H)
    simp only [Option.some.injEq, Prod.mk.injEq] at H
    obtain ⟨rfl, rfl, rfl, rfl, rfl, rfl, rfl, rfl, rfl, rfl, rfl, rfl, rfl, rfl, rfl⟩ := H
    go_wp2_with (first | ((with_reducible refine gkx 69 rfl ?_); refine gL 110 Tryz.func69 rfl (weighbridgeref09_about.calls kj3 1 t392 t393 t385 t386 t387 0 0 0 t384 t386 t387 0 0 t389 t413 t414 t415 t416 t417 t418 t419 t420 t421 t422 t423 t424 t425 t426 t427 _ A106.out) ?_; rintro w114 hb; (try clear A106); replace BK379 := AA (blk_below (g := gb379) (o := .cells (rr14 0 0 0 0 0 0 0 0 0 0 0 0 0 0) 65 (0, 0)) (BE BK379) hb); replace BK391 := AA (blk_below (g := gb391) (o := .cells (rr9 t380 t381 t382 t383 t384 t385 t386 t387 t388) 43 (0, 0)) (BE BK391) hb); replace BK395 := AA (blk_below (g := gb395) (o := .cells (rr14 1 t392 t393 t385 t386 t387 0 0 0 t384 t386 t387 0 0) 65 (0, 0)) (BE BK395) hb); replace HB := BS HB hb; (try clear hb); have hz115 := blk14 BK379.out))
    refine bodyPost_ret (results_ct rfl _ _ gb379 65 #[.int .i64 t413, .int .i64 t414, .int .i64 t415, .int .i64 t416, .int .u32 t417, .int .u32 t418, .int .i64 t419, .int .i64 t420, .int .i64 t421, .int .i64 t422, .int .u32 t423, .int .u32 t424, .int .i64 t425, .int .i64 t426] (0, 0) _ rfl (BE BK379) Tryz.underlying65 rfl (by kernel_rfl)) rfl ?_
    exact ⟨RT, BW HB⟩
   rw [if_neg c105] at H
   have c105b0 := BF c105
   have c105b1 := NT c105
   simp only [Option.some.injEq, Prod.mk.injEq] at H
   obtain ⟨rfl, rfl, rfl, rfl, rfl, rfl, rfl, rfl, rfl, rfl, rfl, rfl, rfl, rfl, rfl⟩ := H
   obtain ⟨zz0, zz1, zz2, zz3, zz4, zz5, zz6, zz7, zz8, zz9, zz10, zz11, zz12, zz13, yy0, yy1, yy2, yy3, yy4, yy5, yy6, yy7, yy8, yy9, yy10, yy11, yy12, yy13⟩ := blk14 BK379.out
   go_wp2_with (fail)
   refine bodyPost_ret (results_ct rfl _ _ gb379 65 #[.int .i64 0, .int .i64 0, .int .i64 0, .int .i64 0, .int .u32 0, .int .u32 0, .int .i64 0, .int .i64 0, .int .i64 0, .int .i64 0, .int .u32 0, .int .u32 0, .int .i64 0, .int .i64 0] (0, 0) _ rfl (BE BK379) Tryz.underlying65 rfl (by kernel_rfl)) rfl ?_
   exact ⟨RT, BW HB⟩

end Go.Proofs.YtfnjohklmpiboaaGreat.Pr
