-- Written by a program of the session (wip/tools) out of the translation, over the kit's print; with pieces of the session's own.
import Derived.Test.YtfnjohklmpiboaaGreatPr0
import Derived.Test.YtfnjohklmpiboaaGreatPr1
import Derived.Test.YtfnjohklmpiboaaGreatPr2
import Derived.Test.YtfnjohklmpiboaaGreatPr20
namespace Go.Proofs.YtfnjohklmpiboaaGreat.Pr
open Go.RowKit Go.Proofs.YtfnjohklmpiboaaGreatW.PrintWords Go.Proofs.YtfnjohklmpiboaaGreatW.PrintLast Go.Proofs.YtfnjohklmpiboaaGreatW.PrintMore
attribute [local go_sem] max2_int min2_int max_two min_two max_three min_three max_four min_four   -- for this text's walks alone
set_option linter.unusedVariables false
set_option linter.unusedSimpArgs false
open Go.Proofs.YtfnjohklmpiboaaGreat.Sp
/-! ### weighbridgeref10_ready: function 23 -/
def weighbridgeref10_ready.j0 : Nat → Bool → Int → Int → Int → Int → Int → Int → Int → Int → Int → Int → Int → Int → Int → Int → Option (Int × Int × Int × Int × Int × Int × Int × Int × Int × Int × Int × Int × Int × Int × Int)
 | 0, _, _, _, _, _, _, _, _, _, _, _, _, _, _, _ => none
 | k + 1, x42, x446000, x446001, x446002, x446003, x446004, x446005, x446006, x446007, x446008, x446009, x446010, x446011, x446012, x446013 => if x42 = true then (some (x446000, x446001, x446002, x446003, x446004, x446005, x446006, x446007, x446008, x446009, x446010, x446011, x446012, x446013, 1)) else (if x446009 < 2 then (some (x446000, x446001, x446002, x446003, x446004, x446005, x446006, x446007, x446008, x446009, x446010, x446011, x446012, x446013, 11)) else (some (x446000, x446001, x446002, x446003, x446004, x446005, x446006, x446007, x446008, x446009, x446010, x446011, x446012, x446013, 0)))
def weighbridgeref10_ready.f (k : Nat) (a0 : ByteArray) (a1 : Int) (a2_0 : Int) (a2_1 : Int) (a2_2 : Int) (a2_3 : Int) : Option (Int × Int × Int × Int × Int × Int × Int × Int × Int × Int × Int × Int × Int × Int × Int) := (weighbridgeref09_Classify.f k a0).bind fun bt430 => (if bt430.2.2.2.2.2.2.2.2.2.2.2.2.2.2 = 0 then (if bt430.1 = a1 then (if a2_2 < 0 then (weighbridgeref10_ready.j0 k true bt430.1 bt430.2.1 bt430.2.2.1 bt430.2.2.2.1 bt430.2.2.2.2.1 bt430.2.2.2.2.2.1 bt430.2.2.2.2.2.2.1 bt430.2.2.2.2.2.2.2.1 bt430.2.2.2.2.2.2.2.2.1 bt430.2.2.2.2.2.2.2.2.2.1 bt430.2.2.2.2.2.2.2.2.2.2.1 bt430.2.2.2.2.2.2.2.2.2.2.2.1 bt430.2.2.2.2.2.2.2.2.2.2.2.2.1 bt430.2.2.2.2.2.2.2.2.2.2.2.2.2.1) else (if a2_2 > 65535 then (weighbridgeref10_ready.j0 k true bt430.1 bt430.2.1 bt430.2.2.1 bt430.2.2.2.1 bt430.2.2.2.2.1 bt430.2.2.2.2.2.1 bt430.2.2.2.2.2.2.1 bt430.2.2.2.2.2.2.2.1 bt430.2.2.2.2.2.2.2.2.1 bt430.2.2.2.2.2.2.2.2.2.1 bt430.2.2.2.2.2.2.2.2.2.2.1 bt430.2.2.2.2.2.2.2.2.2.2.2.1 bt430.2.2.2.2.2.2.2.2.2.2.2.2.1 bt430.2.2.2.2.2.2.2.2.2.2.2.2.2.1) else (if a2_3 < 0 then (weighbridgeref10_ready.j0 k true bt430.1 bt430.2.1 bt430.2.2.1 bt430.2.2.2.1 bt430.2.2.2.2.1 bt430.2.2.2.2.2.1 bt430.2.2.2.2.2.2.1 bt430.2.2.2.2.2.2.2.1 bt430.2.2.2.2.2.2.2.2.1 bt430.2.2.2.2.2.2.2.2.2.1 bt430.2.2.2.2.2.2.2.2.2.2.1 bt430.2.2.2.2.2.2.2.2.2.2.2.1 bt430.2.2.2.2.2.2.2.2.2.2.2.2.1 bt430.2.2.2.2.2.2.2.2.2.2.2.2.2.1) else (weighbridgeref10_ready.j0 k (decide (a2_3 > 65535)) bt430.1 bt430.2.1 bt430.2.2.1 bt430.2.2.2.1 bt430.2.2.2.2.1 bt430.2.2.2.2.2.1 bt430.2.2.2.2.2.2.1 bt430.2.2.2.2.2.2.2.1 bt430.2.2.2.2.2.2.2.2.1 bt430.2.2.2.2.2.2.2.2.2.1 bt430.2.2.2.2.2.2.2.2.2.2.1 bt430.2.2.2.2.2.2.2.2.2.2.2.1 bt430.2.2.2.2.2.2.2.2.2.2.2.2.1 bt430.2.2.2.2.2.2.2.2.2.2.2.2.2.1)))) else (weighbridgeref10_ready.j0 k true bt430.1 bt430.2.1 bt430.2.2.1 bt430.2.2.2.1 bt430.2.2.2.2.1 bt430.2.2.2.2.2.1 bt430.2.2.2.2.2.2.1 bt430.2.2.2.2.2.2.2.1 bt430.2.2.2.2.2.2.2.2.1 bt430.2.2.2.2.2.2.2.2.2.1 bt430.2.2.2.2.2.2.2.2.2.2.1 bt430.2.2.2.2.2.2.2.2.2.2.2.1 bt430.2.2.2.2.2.2.2.2.2.2.2.2.1 bt430.2.2.2.2.2.2.2.2.2.2.2.2.2.1)) else (some (bt430.1, bt430.2.1, bt430.2.2.1, bt430.2.2.2.1, bt430.2.2.2.2.1, bt430.2.2.2.2.2.1, bt430.2.2.2.2.2.2.1, bt430.2.2.2.2.2.2.2.1, bt430.2.2.2.2.2.2.2.2.1, bt430.2.2.2.2.2.2.2.2.2.1, bt430.2.2.2.2.2.2.2.2.2.2.1, bt430.2.2.2.2.2.2.2.2.2.2.2.1, bt430.2.2.2.2.2.2.2.2.2.2.2.2.1, bt430.2.2.2.2.2.2.2.2.2.2.2.2.2.1, bt430.2.2.2.2.2.2.2.2.2.2.2.2.2.2)))
theorem weighbridgeref10_ready.mono_l : ∀ k, (∀ y0 y1 y2 y3 y4 y5 y6 y7 y8 y9 y10 y11 y12 y13 y14, LeO (weighbridgeref10_ready.j0 k y0 y1 y2 y3 y4 y5 y6 y7 y8 y9 y10 y11 y12 y13 y14) (weighbridgeref10_ready.j0 (k + 1) y0 y1 y2 y3 y4 y5 y6 y7 y8 y9 y10 y11 y12 y13 y14))
 | 0 => fun _ _ _ _ _ _ _ _ _ _ _ _ _ _ _ r h => by simp [weighbridgeref10_ready.j0] at h
 | k + 1 => by
  have ih0 := weighbridgeref10_ready.mono_l k
  ·intro y0 y1 y2 y3 y4 y5 y6 y7 y8 y9 y10 y11 y12 y13 y14
   unfold weighbridgeref10_ready.j0
   repeat' first
   | (with_reducible exact ih0 _ _ _ _ _ _ _ _ _ _ _ _ _ _ _)
   | (with_reducible exact weighbridgeref09_Classify.mono _ _)
   | (with_reducible exact LeO.refl _)
   | (with_reducible exact LeO.none _)
   | (with_reducible refine LeO.ite ?_ ?_)
   | (with_reducible refine LeO.bind ?_ (fun _ => ?_))
   | exact ih0 _ _ _ _ _ _ _ _ _ _ _ _ _ _ _
   | exact weighbridgeref09_Classify.mono _ _
   | exact LeO.none _
   | refine LeO.ite ?_ ?_
   | refine LeO.bind ?_ (fun _ => ?_)
theorem weighbridgeref10_ready.mono : ∀ a0 a1 a2 a3 a4 a5 k, LeO (weighbridgeref10_ready.f k a0 a1 a2 a3 a4 a5) (weighbridgeref10_ready.f (k + 1) a0 a1 a2 a3 a4 a5) := by
 intro a0 a1 a2 a3 a4 a5 k
 have ih0 := weighbridgeref10_ready.mono_l k
 unfold weighbridgeref10_ready.f
 repeat' first
   | (with_reducible exact ih0 _ _ _ _ _ _ _ _ _ _ _ _ _ _ _)
   | (with_reducible exact weighbridgeref09_Classify.mono _ _)
   | (with_reducible exact LeO.refl _)
   | (with_reducible exact LeO.none _)
   | (with_reducible refine LeO.ite ?_ ?_)
   | (with_reducible refine LeO.bind ?_ (fun _ => ?_))
   | exact ih0 _ _ _ _ _ _ _ _ _ _ _ _ _ _ _
   | exact weighbridgeref09_Classify.mono _ _
   | exact LeO.none _
   | refine LeO.ite ?_ ?_
   | refine LeO.bind ?_ (fun _ => ?_)
set_option maxHeartbeats 8000000 in
set_option maxRecDepth 100000 in
theorem weighbridgeref10_ready.calls (k : Nat) (a0 : ByteArray) (a1 : Int) (a2_0 : Int) (a2_1 : Int) (a2_2 : Int) (a2_3 : Int) (r1 : Int) (r2 : Int) (r3 : Int) (r4 : Int) (r5 : Int) (r6 : Int) (r7 : Int) (r8 : Int) (r9 : Int) (r10 : Int) (r11 : Int) (r12 : Int) (r13 : Int) (r14 : Int) (r15 : Int) (w : World) (h : weighbridgeref10_ready.f k a0 a1 a2_0 a2_1 a2_2 a2_3 = some (r1, r2, r3, r4, r5, r6, r7, r8, r9, r10, r11, r12, r13, r14, r15)) :
  Calls Tryz.prog 23 #[.string a0, .int .i64 a1, .agg #[.int .u32 a2_0, .int .u32 a2_1, .int .i64 a2_2, .int .i64 a2_3]] w fun e w' => e = .returned (.tuple #[.agg #[.int .i64 r1, .int .i64 r2, .int .i64 r3, .int .i64 r4, .int .u32 r5, .int .u32 r6, .int .i64 r7, .int .i64 r8, .int .i64 r9, .int .i64 r10, .int .u32 r11, .int .u32 r12, .int .i64 r13, .int .i64 r14], .int .i64 r15]) ∧ Below w.heap.size w w' := by
 have hu36 := Tryz.underlying36
 have hu65 := Tryz.underlying65
 have HB := AA (Below.refl w.heap.size w)
 have H := h
 unfold weighbridgeref10_ready.f at H
 clear h
 replace H := OB H
 obtain ⟨⟨t430, t431, t432, t433, t434, t435, t436, t437, t438, t439, t440, t441, t442, t443, t444⟩, A4, H⟩ := H
 (try set_option simprocs false in dsimp only at H)
 by_cases c5 : t444 = 0
 rotate_left
 ·rw [if_neg c5] at H
  have c5b0 := BF c5
  have c5b1 := NT c5
  simp only [Option.some.injEq, Prod.mk.injEq] at H
  obtain ⟨rfl, rfl, rfl, rfl, rfl, rfl, rfl, rfl, rfl, rfl, rfl, rfl, rfl, rfl, rfl⟩ := H
  go_enter Tryz.func23, Tryz.ntmps23
  go_wp2_with (first | ((with_reducible refine gate_dst (N := 5) rfl ?_); refine bx 5 36 #[.int .u32 a2_0, .int .u32 a2_1, .int .i64 a2_2, .int .i64 a2_3] ?_; intro gb428 hg w58 hbox hb; have BK428 := AA hbox; have GW428 := GS hg HB; have GE428 := GS hg HB; replace HB := BS HB hb; clear hb hbox hg) | ((with_reducible refine gate_dst (N := 6) rfl ?_); refine bx 6 65 (rr14 0 0 0 0 0 0 0 0 0 0 0 0 0 0) ?_; intro gb429 hg w59 hbox hb; have BK429 := AA hbox; have GW429 := GS hg HB; have GE429 := GS hg HB; replace HB := BS HB hb; have NB428_429 := AA (by rw [hg]; exact Nat.ne_of_lt (blk_lt (g := gb428) (o := .cells #[.int .u32 a2_0, .int .u32 a2_1, .int .i64 a2_2, .int .i64 a2_3] 36 (0, 0)) (BD BK428)) : gb428 ≠ gb429); have NB429_428 := AA (by rw [hg]; exact Nat.ne_of_gt (blk_lt (g := gb428) (o := .cells #[.int .u32 a2_0, .int .u32 a2_1, .int .i64 a2_2, .int .i64 a2_3] 36 (0, 0)) (BD BK428)) : gb429 ≠ gb428); replace BK428 := AA (blk_below (g := gb428) (o := .cells #[.int .u32 a2_0, .int .u32 a2_1, .int .i64 a2_2, .int .i64 a2_3] 36 (0, 0)) (BD BK428) hb); clear hb hbox hg) | ((with_reducible refine gkx 44 rfl ?_); refine gL 12 Tryz.func44 rfl (weighbridgeref09_Classify.calls k a0 t430 t431 t432 t433 t434 t435 t436 t437 t438 t439 t440 t441 t442 t443 t444 _ A4.out) ?_; rintro w60 hb; (try clear A4); replace BK428 := AA (blk_below (g := gb428) (o := .cells #[.int .u32 a2_0, .int .u32 a2_1, .int .i64 a2_2, .int .i64 a2_3] 36 (0, 0)) (BD BK428) hb); replace BK429 := AA (blk_below (g := gb429) (o := .cells (rr14 0 0 0 0 0 0 0 0 0 0 0 0 0 0) 65 (0, 0)) (BD BK429) hb); replace HB := BS HB hb; (try clear hb)) | ((with_reducible refine gate_dst (N := 8) rfl ?_); refine bx 8 65 (rr14 0 0 0 0 0 0 0 0 0 0 0 0 0 0) ?_; intro gb445 hg w61 hbox hb; have BK445 := AA hbox; have GW445 := GS hg HB; have GE445 := GS hg HB; replace HB := BS HB hb; have NB428_445 := AA (by rw [hg]; exact Nat.ne_of_lt (blk_lt (g := gb428) (o := .cells #[.int .u32 a2_0, .int .u32 a2_1, .int .i64 a2_2, .int .i64 a2_3] 36 (0, 0)) (BD BK428)) : gb428 ≠ gb445); have NB445_428 := AA (by rw [hg]; exact Nat.ne_of_gt (blk_lt (g := gb428) (o := .cells #[.int .u32 a2_0, .int .u32 a2_1, .int .i64 a2_2, .int .i64 a2_3] 36 (0, 0)) (BD BK428)) : gb445 ≠ gb428); replace BK428 := AA (blk_below (g := gb428) (o := .cells #[.int .u32 a2_0, .int .u32 a2_1, .int .i64 a2_2, .int .i64 a2_3] 36 (0, 0)) (BD BK428) hb); have NB429_445 := AA (by rw [hg]; exact Nat.ne_of_lt (blk_lt (g := gb429) (o := .cells (rr14 0 0 0 0 0 0 0 0 0 0 0 0 0 0) 65 (0, 0)) (BD BK429)) : gb429 ≠ gb445); have NB445_429 := AA (by rw [hg]; exact Nat.ne_of_gt (blk_lt (g := gb429) (o := .cells (rr14 0 0 0 0 0 0 0 0 0 0 0 0 0 0) 65 (0, 0)) (BD BK429)) : gb445 ≠ gb429); replace BK429 := AA (blk_below (g := gb429) (o := .cells (rr14 0 0 0 0 0 0 0 0 0 0 0 0 0 0) 65 (0, 0)) (BD BK429) hb); clear hb hbox hg; have hnb62 := NB445_428.out; have hnc62 := NB428_445.out; have hnb63 := NB445_429.out; have hnc63 := NB429_445.out; have hz64 := blk14 BK445.out; have hnb65 := NB429_428.out; have hnc65 := NB428_429.out; have hz66 := blk14 BK429.out))
  refine bodyPost_ret (results_ct rfl _ _ gb429 65 #[.int .i64 t430, .int .i64 t431, .int .i64 t432, .int .i64 t433, .int .u32 t434, .int .u32 t435, .int .i64 t436, .int .i64 t437, .int .i64 t438, .int .i64 t439, .int .u32 t440, .int .u32 t441, .int .i64 t442, .int .i64 t443] (0, 0) _ rfl (BE BK429) Tryz.underlying65 rfl (by kernel_rfl)) rfl ?_
  exact ⟨RT, BW HB⟩
 rw [if_pos c5] at H
 have c5b0 := BT c5
 have c5b1 := NF c5
 clear c5
 have HC6 := AA H
 clear H
 go_enter Tryz.func23, Tryz.ntmps23
 go_upto_region 4 with (first | ((with_reducible refine gate_dst (N := 5) rfl ?_); refine bx 5 36 #[.int .u32 a2_0, .int .u32 a2_1, .int .i64 a2_2, .int .i64 a2_3] ?_; intro gb428 hg w7 hbox hb; have BK428 := AA hbox; have GW428 := GS hg HB; have GE428 := GS hg HB; replace HB := BS HB hb; clear hb hbox hg) | ((with_reducible refine gate_dst (N := 6) rfl ?_); refine bx 6 65 (rr14 0 0 0 0 0 0 0 0 0 0 0 0 0 0) ?_; intro gb429 hg w8 hbox hb; have BK429 := AA hbox; have GW429 := GS hg HB; have GE429 := GS hg HB; replace HB := BS HB hb; have NB428_429 := AA (by rw [hg]; exact Nat.ne_of_lt (blk_lt (g := gb428) (o := .cells #[.int .u32 a2_0, .int .u32 a2_1, .int .i64 a2_2, .int .i64 a2_3] 36 (0, 0)) (BD BK428)) : gb428 ≠ gb429); have NB429_428 := AA (by rw [hg]; exact Nat.ne_of_gt (blk_lt (g := gb428) (o := .cells #[.int .u32 a2_0, .int .u32 a2_1, .int .i64 a2_2, .int .i64 a2_3] 36 (0, 0)) (BD BK428)) : gb429 ≠ gb428); replace BK428 := AA (blk_below (g := gb428) (o := .cells #[.int .u32 a2_0, .int .u32 a2_1, .int .i64 a2_2, .int .i64 a2_3] 36 (0, 0)) (BD BK428) hb); clear hb hbox hg) | ((with_reducible refine gkx 44 rfl ?_); refine gL 12 Tryz.func44 rfl (weighbridgeref09_Classify.calls k a0 t430 t431 t432 t433 t434 t435 t436 t437 t438 t439 t440 t441 t442 t443 t444 _ A4.out) ?_; rintro w9 hb; replace BK428 := AA (blk_below (g := gb428) (o := .cells #[.int .u32 a2_0, .int .u32 a2_1, .int .i64 a2_2, .int .i64 a2_3] 36 (0, 0)) (BD BK428) hb); replace BK429 := AA (blk_below (g := gb429) (o := .cells (rr14 0 0 0 0 0 0 0 0 0 0 0 0 0 0) 65 (0, 0)) (BD BK429) hb); replace HB := BS HB hb; (try clear hb)) | ((with_reducible refine gate_dst (N := 8) rfl ?_); refine bx 8 65 (rr14 0 0 0 0 0 0 0 0 0 0 0 0 0 0) ?_; intro gb445 hg w10 hbox hb; have BK445 := AA hbox; have GW445 := GS hg HB; have GE445 := GS hg HB; replace HB := BS HB hb; have NB428_445 := AA (by rw [hg]; exact Nat.ne_of_lt (blk_lt (g := gb428) (o := .cells #[.int .u32 a2_0, .int .u32 a2_1, .int .i64 a2_2, .int .i64 a2_3] 36 (0, 0)) (BD BK428)) : gb428 ≠ gb445); have NB445_428 := AA (by rw [hg]; exact Nat.ne_of_gt (blk_lt (g := gb428) (o := .cells #[.int .u32 a2_0, .int .u32 a2_1, .int .i64 a2_2, .int .i64 a2_3] 36 (0, 0)) (BD BK428)) : gb445 ≠ gb428); replace BK428 := AA (blk_below (g := gb428) (o := .cells #[.int .u32 a2_0, .int .u32 a2_1, .int .i64 a2_2, .int .i64 a2_3] 36 (0, 0)) (BD BK428) hb); have NB429_445 := AA (by rw [hg]; exact Nat.ne_of_lt (blk_lt (g := gb429) (o := .cells (rr14 0 0 0 0 0 0 0 0 0 0 0 0 0 0) 65 (0, 0)) (BD BK429)) : gb429 ≠ gb445); have NB445_429 := AA (by rw [hg]; exact Nat.ne_of_gt (blk_lt (g := gb429) (o := .cells (rr14 0 0 0 0 0 0 0 0 0 0 0 0 0 0) 65 (0, 0)) (BD BK429)) : gb445 ≠ gb429); replace BK429 := AA (blk_below (g := gb429) (o := .cells (rr14 0 0 0 0 0 0 0 0 0 0 0 0 0 0) 65 (0, 0)) (BD BK429) hb); clear hb hbox hg; have hnb11 := NB445_428.out; have hnc11 := NB428_445.out; have hnb12 := NB445_429.out; have hnc12 := NB429_445.out; have hz13 := blk14 BK445.out))
 (try simp only [Act.put, List.setIfInBounds_toArray, List.set_cons_zero, List.set_cons_succ])
 go_cut [42] (fun v42 wc => ∃ (kq : Nat) (x42_5 : Bool), v42 = .bool x42_5 ∧ Aside0 (weighbridgeref10_ready.j0 kq x42_5 t430 t431 t432 t433 t434 t435 t436 t437 t438 t439 t440 t441 t442 t443 = some (r1, r2, r3, r4, r5, r6, r7, r8, r9, r10, r11, r12, r13, r14, r15)) ∧ Aside0 (kq ≤ k) ∧ Aside0 (wc.heap[gb428]? = some (.cells #[.int .u32 a2_0, .int .u32 a2_1, .int .i64 a2_2, .int .i64 a2_3] 36 (0, 0))) ∧ Aside0 (wc.heap[gb429]? = some (.cells (rr14 0 0 0 0 0 0 0 0 0 0 0 0 0 0) 65 (0, 0))) ∧ Aside0 (wc.heap[gb445]? = some (.cells (rr14 t430 t431 t432 t433 t434 t435 t436 t437 t438 t439 t440 t441 t442 t443) 65 (0, 0))) ∧ Aside0 (Below w.heap.size w wc))
 case first =>
  have H := HC6.out
  clear HC6
  by_cases c14 : t430 = a1
  rotate_left
  ·rw [if_neg c14] at H
   have c14b0 := BF c14
   have c14b1 := NT c14
   (first | rw [c14b0] | (simp only [i64_w, i32_w]; rw [c14b0]) | skip)
   have H' := AA H
   clear H
   have hnb38 := NB445_428.out
   have hnc38 := NB428_445.out
   have hnb39 := NB445_429.out
   have hnc39 := NB429_445.out
   have hz40 := blk14 BK445.out
   go_wp2
   go_meet
   case rel => exact ⟨_, (true), QS, H', LR, ⟨BE BK428⟩, ⟨BE BK429⟩, ⟨BE BK445⟩, ⟨BW HB⟩⟩
  rw [if_pos c14] at H
  have c14b0 := BT c14
  have c14b1 := NF c14
  clear c14
  (first | rw [c14b0] | (simp only [i64_w, i32_w]; rw [c14b0]) | skip)
  by_cases c15 : a2_2 < 0
  ·rw [if_pos c15] at H
   have c15b0 := decide_eq_true c15
   clear c15
   have H' := AA H
   clear H
   have hnb16 := NB445_428.out
   have hnc16 := NB428_445.out
   have hnb17 := NB445_429.out
   have hnc17 := NB429_445.out
   have hz18 := blk14 BK445.out
   have hnb19 := NB428_429.out
   have hnc19 := NB429_428.out
   have hz20 := blk4 BK428.out
   go_wp2
   go_meet
   case rel => exact ⟨_, (true), QS, H', LR, ⟨BE BK428⟩, ⟨BE BK429⟩, ⟨BE BK445⟩, ⟨BW HB⟩⟩
  rw [if_neg c15] at H
  have c15b0 := decide_eq_false c15
  clear c15
  by_cases c21 : a2_2 > 65535
  ·rw [if_pos c21] at H
   have c21b0 : decide (65535 < a2_2) = true := decide_eq_true c21
   clear c21
   have H' := AA H
   clear H
   have hnb22 := NB445_428.out
   have hnc22 := NB428_445.out
   have hnb23 := NB445_429.out
   have hnc23 := NB429_445.out
   have hz24 := blk14 BK445.out
   have hnb25 := NB428_429.out
   have hnc25 := NB429_428.out
   have hz26 := blk4 BK428.out
   go_wp2
   go_meet
   case rel => exact ⟨_, (true), QS, H', LR, ⟨BE BK428⟩, ⟨BE BK429⟩, ⟨BE BK445⟩, ⟨BW HB⟩⟩
  rw [if_neg c21] at H
  have c21b0 : decide (65535 < a2_2) = false := decide_eq_false c21
  clear c21
  by_cases c27 : a2_3 < 0
  ·rw [if_pos c27] at H
   have c27b0 := decide_eq_true c27
   clear c27
   have H' := AA H
   clear H
   have hnb28 := NB445_428.out
   have hnc28 := NB428_445.out
   have hnb29 := NB445_429.out
   have hnc29 := NB429_445.out
   have hz30 := blk14 BK445.out
   have hnb31 := NB428_429.out
   have hnc31 := NB429_428.out
   have hz32 := blk4 BK428.out
   go_wp2
   go_meet
   case rel => exact ⟨_, (true), QS, H', LR, ⟨BE BK428⟩, ⟨BE BK429⟩, ⟨BE BK445⟩, ⟨BW HB⟩⟩
  rw [if_neg c27] at H
  have c27b0 := decide_eq_false c27
  clear c27
  have H' := AA H
  clear H
  have hnb33 := NB445_428.out
  have hnc33 := NB428_445.out
  have hnb34 := NB445_429.out
  have hnc34 := NB429_445.out
  have hz35 := blk14 BK445.out
  have hnb36 := NB428_429.out
  have hnc36 := NB429_428.out
  have hz37 := blk4 BK428.out
  go_wp2
  go_meet
  case rel => exact ⟨_, (decide (a2_3 > 65535)), QS, H', LR, ⟨BE BK428⟩, ⟨BE BK429⟩, ⟨BE BK445⟩, ⟨BW HB⟩⟩
 case rest =>
  clear HC6
  try clear c1; try clear c2; try clear p2; try clear c3; try clear c4; try clear c5; try clear c5b0; try clear c5b1; try clear c11; try clear c12; try clear c14; try clear c14b0; try clear c14b1; try clear c15; try clear c15b0; try clear c16; try clear c17; try clear c19; try clear c21; try clear c21b0; try clear c22; try clear c23; try clear c25; try clear c27; try clear c27b0; try clear c28; try clear c29; try clear c31; try clear c33; try clear c34; try clear c36; try clear c38; try clear c39; try clear hz13; try clear hz18; try clear hz20; try clear hz24; try clear hz26; try clear hz30; try clear hz32; try clear hz35; try clear hz37; try clear hz40
  obtain ⟨kq, x42_5, rfl, HA, HJ5, BK428, BK429, BK445, HB⟩ := hcut
  cases kq with
  | zero => exact absurd HA.out (by simp [weighbridgeref10_ready.j0])
  | succ kj5 =>
   have H := HA.out
   clear HA
   simp only [weighbridgeref10_ready.j0] at H
   by_cases c41 : x42_5 = true
   ·subst c41
    first | rw [if_pos rfl] at H | rw [if_pos trivial] at H
    simp only [Option.some.injEq, Prod.mk.injEq] at H
    obtain ⟨rfl, rfl, rfl, rfl, rfl, rfl, rfl, rfl, rfl, rfl, rfl, rfl, rfl, rfl, rfl⟩ := H
    have hnb42 := NB445_428.out
    have hnc42 := NB428_445.out
    have hnb43 := NB445_429.out
    have hnc43 := NB429_445.out
    have hz44 := blk14 BK445.out
    have hnb45 := NB429_428.out
    have hnc45 := NB428_429.out
    have hz46 := blk14 BK429.out
    go_wp2
    refine bodyPost_ret (results_ct rfl _ _ gb429 65 #[.int .i64 t430, .int .i64 t431, .int .i64 t432, .int .i64 t433, .int .u32 t434, .int .u32 t435, .int .i64 t436, .int .i64 t437, .int .i64 t438, .int .i64 t439, .int .u32 t440, .int .u32 t441, .int .i64 t442, .int .i64 t443] (0, 0) _ rfl (BE BK429) Tryz.underlying65 rfl (by kernel_rfl)) rfl ?_
    exact ⟨RT, BW HB⟩
   replace c41 := Bool.eq_false_iff.mpr c41
   subst c41
   replace H := IFN H
   by_cases c47 : t439 < 2
   ·rw [if_pos c47] at H
    have c47b0 := decide_eq_true c47
    clear c47
    simp only [Option.some.injEq, Prod.mk.injEq] at H
    obtain ⟨rfl, rfl, rfl, rfl, rfl, rfl, rfl, rfl, rfl, rfl, rfl, rfl, rfl, rfl, rfl⟩ := H
    have hnb48 := NB445_428.out
    have hnc48 := NB428_445.out
    have hnb49 := NB445_429.out
    have hnc49 := NB429_445.out
    have hz50 := blk14 BK445.out
    have hnb51 := NB429_428.out
    have hnc51 := NB428_429.out
    have hz52 := blk14 BK429.out
    go_wp2
    refine bodyPost_ret (results_ct rfl _ _ gb429 65 #[.int .i64 t430, .int .i64 t431, .int .i64 t432, .int .i64 t433, .int .u32 t434, .int .u32 t435, .int .i64 t436, .int .i64 t437, .int .i64 t438, .int .i64 t439, .int .u32 t440, .int .u32 t441, .int .i64 t442, .int .i64 t443] (0, 0) _ rfl (BE BK429) Tryz.underlying65 rfl (by kernel_rfl)) rfl ?_
    exact ⟨RT, BW HB⟩
   rw [if_neg c47] at H
   have c47b0 := decide_eq_false c47
   clear c47
   simp only [Option.some.injEq, Prod.mk.injEq] at H
   obtain ⟨rfl, rfl, rfl, rfl, rfl, rfl, rfl, rfl, rfl, rfl, rfl, rfl, rfl, rfl, rfl⟩ := H
   have hnb53 := NB445_428.out
   have hnc53 := NB428_445.out
   have hnb54 := NB445_429.out
   have hnc54 := NB429_445.out
   have hz55 := blk14 BK445.out
   have hnb56 := NB429_428.out
   have hnc56 := NB428_429.out
   have hz57 := blk14 BK429.out
   go_wp2
   refine bodyPost_ret (results_ct rfl _ _ gb429 65 #[.int .i64 t430, .int .i64 t431, .int .i64 t432, .int .i64 t433, .int .u32 t434, .int .u32 t435, .int .i64 t436, .int .i64 t437, .int .i64 t438, .int .i64 t439, .int .u32 t440, .int .u32 t441, .int .i64 t442, .int .i64 t443] (0, 0) _ rfl (BE BK429) Tryz.underlying65 rfl (by kernel_rfl)) rfl ?_
   exact ⟨RT, BW HB⟩

/-! ### weighbridgeref10_with: function 25 -/
def weighbridgeref10_with.f (a0 : ByteArray) (a1 : Int) (a2 : Int) (a3 : Int) : Option (ByteArray) := (weighbridgeref01_Set.f a0 a1 a2 a3).bind fun bt446 => (some bt446.1)
set_option maxHeartbeats 8000000 in
set_option maxRecDepth 100000 in
theorem weighbridgeref10_with.calls (a0 : ByteArray) (a1 : Int) (a2 : Int) (a3 : Int) (r : ByteArray) (w : World) (h : weighbridgeref10_with.f a0 a1 a2 a3 = some r) :
  Calls Tryz.prog 25 #[.string a0, .int .i64 a1, .int .i64 a2, .int .i64 a3] w fun e w' => e = .returned (.string r) ∧ Below w.heap.size w w' := by
 have HB := AA (Below.refl w.heap.size w)
 have H : ((weighbridgeref01_Set.f a0 a1 a2 a3).bind fun bt446 => (some bt446.1)) = some r := h
 clear h
 replace H := OB H
 obtain ⟨⟨t446, t447⟩, A5, H⟩ := H
 (try set_option simprocs false in dsimp only at H)
 obtain rfl := Option.some.inj H
 go_enter Tryz.func25, Tryz.ntmps25
 go_wp2_with (first | ((with_reducible refine gkx 45 rfl ?_); refine gL 16 Tryz.func45 rfl (weighbridgeref01_Set.calls a0 a1 a2 a3 t446 t447 _ A5.out) ?_; rintro w6 hb; (try clear A5); replace HB := BS HB hb; (try clear hb)))
 go_ret
 exact ⟨RT, BW HB⟩

/-! ### weighbridgeref10_num: function 27 -/
def weighbridgeref10_num.f (a0 : ByteArray) (a1 : Int) (a2 : Int) : Option (Int) := (weighbridgeref01_Get.f a0 a1 a2).bind fun bt448 => (some bt448.1)
set_option maxHeartbeats 8000000 in
set_option maxRecDepth 100000 in
theorem weighbridgeref10_num.calls (a0 : ByteArray) (a1 : Int) (a2 : Int) (r : Int) (w : World) (h : weighbridgeref10_num.f a0 a1 a2 = some r) :
  Calls Tryz.prog 27 #[.string a0, .int .i64 a1, .int .i64 a2] w fun e w' => e = .returned (.int .i64 r) ∧ Drawn0 w w' := by
 have H : ((weighbridgeref01_Get.f a0 a1 a2).bind fun bt448 => (some bt448.1)) = some r := h
 clear h
 replace H := OB H
 obtain ⟨⟨t448, t449⟩, A4, H⟩ := H
 (try set_option simprocs false in dsimp only at H)
 obtain rfl := Option.some.inj H
 go_enter Tryz.func27, Tryz.ntmps27
 go_wp2_with (first | ((with_reducible refine gkx 29 rfl ?_); refine gL 13 Tryz.func29 rfl (weighbridgeref01_Get.calls a0 a1 a2 t448 t449 _ A4.out) ?_; rintro w' ⟨nd, rfl⟩))
 go_ret
 exact ⟨RS, DW⟩

/-! ### weighbridgeref10_outer: function 24 -/
def weighbridgeref10_outer.f (a0 : ByteArray) (a1 : Int) (a2 : Int) (a3 : Int) : Option (ByteArray) := (weighbridgeref10_num.f a0 8 1).bind fun t450 => ((weighbridgeref10_with.f a0 8 1 (wrap64 (t450 - 1))).bind fun t451 => ((weighbridgeref10_with.f t451 12 4 (wrap64 (a2))).bind fun t452 => ((weighbridgeref10_with.f t452 16 4 (wrap64 (a3))).bind fun t453 => ((weighbridgeref10_with.f t453 10 2 0).bind fun t454 => (if 0 ≤ a1 then (if a1 ≤ (t454.size : Int) then ((weighbridgeref03_Check.f (t454.extract 0 (a1 : Int).toNat)).bind fun t455 => ((weighbridgeref10_with.f t454 10 2 (wrap64 (t455))).bind fun t456 => (some t456))) else (none)) else (none))))))
set_option maxHeartbeats 8000000 in
set_option maxRecDepth 100000 in
theorem weighbridgeref10_outer.calls (a0 : ByteArray) (a1 : Int) (a2 : Int) (a3 : Int) (r : ByteArray) (w : World) (h : weighbridgeref10_outer.f a0 a1 a2 a3 = some r) :
  Calls Tryz.prog 24 #[.string a0, .int .i64 a1, .int .u32 a2, .int .u32 a3] w fun e w' => e = .returned (.string r) ∧ Below w.heap.size w w' := by
 have HB := AA (Below.refl w.heap.size w)
 have H := h
 unfold weighbridgeref10_outer.f at H
 clear h
 replace H := OB H
 obtain ⟨t450, A5, H⟩ := H
 (try set_option simprocs false in dsimp only at H)
 replace H := OB H
 obtain ⟨t451, A6, H⟩ := H
 (try set_option simprocs false in dsimp only at H)
 replace H := OB H
 obtain ⟨t452, A7, H⟩ := H
 (try set_option simprocs false in dsimp only at H)
 replace H := OB H
 obtain ⟨t453, A8, H⟩ := H
 (try set_option simprocs false in dsimp only at H)
 replace H := OB H
 obtain ⟨t454, A9, H⟩ := H
 (try set_option simprocs false in dsimp only at H)
 replace H := IU H
 obtain ⟨c10b0, c10b1, H⟩ := H
 replace H := IU H
 obtain ⟨c11b0, c11b1, H⟩ := H
 replace H := OB H
 obtain ⟨t455, A12, H⟩ := H
 (try set_option simprocs false in dsimp only at H)
 replace H := OB H
 obtain ⟨t456, A13, H⟩ := H
 (try set_option simprocs false in dsimp only at H)
 obtain rfl := Option.some.inj H
 go_enter Tryz.func24, Tryz.ntmps24
 go_wp2_with (first | ((with_reducible refine gkx 27 rfl ?_); refine gL 11 Tryz.func27 rfl (weighbridgeref10_num.calls a0 8 1 t450 _ A5.out) ?_; rintro w' ⟨nd, rfl⟩) | ((with_reducible refine gkx 25 rfl ?_); refine gL 13 Tryz.func25 rfl (weighbridgeref10_with.calls a0 8 1 (wrap64 (t450 - 1)) t451 _ A6.out) ?_; rintro w14 hb; (try clear A6); replace HB := BS HB hb; (try clear hb)) | ((with_reducible refine gkx 25 rfl ?_); refine gL 17 Tryz.func25 rfl (weighbridgeref10_with.calls t451 12 4 (wrap64 (a2)) t452 _ A7.out) ?_; rintro w15 hb; (try clear A7); replace HB := BS HB hb; (try clear hb)) | ((with_reducible refine gkx 25 rfl ?_); refine gL 20 Tryz.func25 rfl (weighbridgeref10_with.calls t452 16 4 (wrap64 (a3)) t453 _ A8.out) ?_; rintro w16 hb; (try clear A8); replace HB := BS HB hb; (try clear hb)) | ((with_reducible refine gkx 25 rfl ?_); refine gL 22 Tryz.func25 rfl (weighbridgeref10_with.calls t453 10 2 0 t454 _ A9.out) ?_; rintro w17 hb; (try clear A9); replace HB := BS HB hb; (try clear hb)) | ((with_reducible refine gkx 31 rfl ?_); refine gL 27 Tryz.func31 rfl (weighbridgeref03_Check.calls (t454.extract 0 (a1 : Int).toNat) t455 _ A12.out) ?_; rintro w18 hb; (try clear A12); replace HB := BS HB hb; (try clear hb)) | ((with_reducible refine gkx 25 rfl ?_); refine gL 29 Tryz.func25 rfl (weighbridgeref10_with.calls t454 10 2 (wrap64 (t455)) t456 _ A13.out) ?_; rintro w19 hb; (try clear A13); replace HB := BS HB hb; (try clear hb)))
 go_ret
 exact ⟨RT, BW HB⟩

/-! ### weighbridgeref10_on: function 26 -/
def weighbridgeref10_on.f (a0 : Int) (a1_0 : Int) (a1_1 : Int) (a1_2 : Int) (a1_3 : Int) (a1_4 : Int) (a2_0 : Int) (a2_1 : Int) (a2_2 : Int) (a2_3 : Int) : Option (Int) := (weighbridgeref03_Update32.f (IntKind.u16.wrap (a0)) a1_1 a2_0).bind fun t462 => ((weighbridgeref03_Update32.f t462 a1_2 a2_1).bind fun t463 => (some (wrap64 (t463))))
set_option maxHeartbeats 8000000 in
set_option maxRecDepth 100000 in
theorem weighbridgeref10_on.calls (a0 : Int) (a1_0 : Int) (a1_1 : Int) (a1_2 : Int) (a1_3 : Int) (a1_4 : Int) (a2_0 : Int) (a2_1 : Int) (a2_2 : Int) (a2_3 : Int) (r : Int) (w : World) (h : weighbridgeref10_on.f a0 a1_0 a1_1 a1_2 a1_3 a1_4 a2_0 a2_1 a2_2 a2_3 = some r) :
  Calls Tryz.prog 26 #[.int .i64 a0, .agg #[.int .i64 a1_0, .int .u32 a1_1, .int .u32 a1_2, .int .i64 a1_3, .int .i64 a1_4], .agg #[.int .u32 a2_0, .int .u32 a2_1, .int .i64 a2_2, .int .i64 a2_3]] w fun e w' => e = .returned (.int .i64 r) ∧ Below w.heap.size w w' := by
 have hu49 := Tryz.underlying49
 have hu36 := Tryz.underlying36
 have HB := AA (Below.refl w.heap.size w)
 have H := h
 unfold weighbridgeref10_on.f at H
 clear h
 replace H := OB H
 obtain ⟨t462, A4, H⟩ := H
 (try set_option simprocs false in dsimp only at H)
 replace H := OB H
 obtain ⟨t463, A5, H⟩ := H
 (try set_option simprocs false in dsimp only at H)
 obtain rfl := Option.some.inj H
 go_enter Tryz.func26, Tryz.ntmps26
 go_wp2_with (first | ((with_reducible refine gate_dst (N := 4) rfl ?_); refine bx 4 49 #[.int .i64 a1_0, .int .u32 a1_1, .int .u32 a1_2, .int .i64 a1_3, .int .i64 a1_4] ?_; intro gb460 hg w6 hbox hb; have BK460 := AA hbox; have GW460 := GS hg HB; have GE460 := GS hg HB; replace HB := BS HB hb; clear hb hbox hg) | ((with_reducible refine gate_dst (N := 5) rfl ?_); refine bx 5 36 #[.int .u32 a2_0, .int .u32 a2_1, .int .i64 a2_2, .int .i64 a2_3] ?_; intro gb461 hg w7 hbox hb; have BK461 := AA hbox; have GW461 := GS hg HB; have GE461 := GS hg HB; replace HB := BS HB hb; have NB460_461 := NL hg BK460; have NB461_460 := NG hg BK460; replace BK460 := BB BK460 hb; clear hb hbox hg; have hnb8 := NB460_461.out; have hnc8 := NB461_460.out; have hz9 := blk5 BK460.out; have hz10 := blk4 BK461.out) | ((with_reducible refine gkx 46 rfl ?_); refine gL 14 Tryz.func46 rfl (weighbridgeref03_Update32.calls (IntKind.u16.wrap (a0)) a1_1 a2_0 t462 _ A4.out) ?_; rintro w' ⟨nd, rfl⟩) | ((with_reducible refine gkx 46 rfl ?_); refine gL 20 Tryz.func46 rfl (weighbridgeref03_Update32.calls t462 a1_2 a2_1 t463 _ A5.out) ?_; rintro w' ⟨nd, rfl⟩))
 go_ret
 exact ⟨RT, BW HB⟩

end Go.Proofs.YtfnjohklmpiboaaGreat.Pr
