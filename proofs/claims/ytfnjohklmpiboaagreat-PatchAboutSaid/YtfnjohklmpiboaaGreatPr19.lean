-- Written by a program of the session (wip/tools) out of the translation, over the kit's print; with pieces of the session's own.
import Derived.Test.YtfnjohklmpiboaaGreatPr0
import Derived.Test.YtfnjohklmpiboaaGreatPr2
import Derived.Test.YtfnjohklmpiboaaGreatPr9
namespace Go.Proofs.YtfnjohklmpiboaaGreat.Pr
open Go.RowKit Go.Proofs.YtfnjohklmpiboaaGreatW.PrintWords Go.Proofs.YtfnjohklmpiboaaGreatW.PrintLast Go.Proofs.YtfnjohklmpiboaaGreatW.PrintMore
attribute [local go_sem] max2_int min2_int max_two min_two max_three min_three max_four min_four   -- for this text's walks alone
set_option linter.unusedVariables false
set_option linter.unusedSimpArgs false
open Go.Proofs.YtfnjohklmpiboaaGreat.Sp
/-! ### weighbridgeref09_num: function 99 -/
def weighbridgeref09_num.f (a0 : ByteArray) (a1 : Int) (a2 : Int) : Option (Int) := (weighbridgeref01_Get.f a0 a1 a2).bind fun bt352 => (some bt352.1)
set_option maxHeartbeats 8000000 in
set_option maxRecDepth 100000 in
theorem weighbridgeref09_num.calls (a0 : ByteArray) (a1 : Int) (a2 : Int) (r : Int) (w : World) (h : weighbridgeref09_num.f a0 a1 a2 = some r) :
  Calls Tryz.prog 99 #[.string a0, .int .i64 a1, .int .i64 a2] w fun e w' => e = .returned (.int .i64 r) ∧ Drawn0 w w' := by
 have H : ((weighbridgeref01_Get.f a0 a1 a2).bind fun bt352 => (some bt352.1)) = some r := h
 clear h
 replace H := OB H
 obtain ⟨⟨t352, t353⟩, A4, H⟩ := H
 (try set_option simprocs false in dsimp only at H)
 obtain rfl := Option.some.inj H
 go_enter Tryz.func99, Tryz.ntmps99
 go_wp2_with (first | ((with_reducible refine gkx 29 rfl ?_); refine gL 13 Tryz.func29 rfl (weighbridgeref01_Get.calls a0 a1 a2 t352 t353 _ A4.out) ?_; rintro w' ⟨nd, rfl⟩))
 go_ret
 exact ⟨RS, DW⟩

/-! ### weighbridgeref09_about: function 69 -/
mutual
def weighbridgeref09_about.j0 : Nat → ByteArray → Int → Bool → Int → Int → Int → Int → Int → Int → Int → Int → Int → Int → Int → Int → Int → Int → Option (Int × Int × Int × Int × Int × Int × Int × Int × Int × Int × Int × Int × Int × Int × Int)
 | 0, _, _, _, _, _, _, _, _, _, _, _, _, _, _, _, _, _ => none
 | k + 1, x8, x9, x41, x355000, x355001, x355002, x355003, x355004, x355005, x355006, x355007, x355008, x355009, x355010, x355011, x355012, x355013 => if x41 = true then (some (0, 0, 0, 0, 0, 0, 0, 0, 0, 0, 0, 0, 0, 0, 4)) else ((weighbridgeref09_num.f x8 6 2).bind fun t363 => (if (Int.tmod t363 8192) = 0 then (if 9 < (x8.size : Int) then (if (wrap64 (bt x8 9)) = 6 then (weighbridgeref09_about.j1 k x8 x9 false x355000 x355001 x355002 x355003 x355004 x355005 x355006 x355007 x355008 x355009 x355010 x355011 x355012 x355013) else (weighbridgeref09_about.j1 k x8 x9 ((wrap64 (bt x8 9)) != 17) x355000 x355001 x355002 x355003 x355004 x355005 x355006 x355007 x355008 x355009 x355010 x355011 x355012 x355013)) else (none)) else (some (0, 0, 0, 0, 0, 0, 0, 0, 0, 0, 0, 0, 0, 0, 8))))
def weighbridgeref09_about.j1 : Nat → ByteArray → Int → Bool → Int → Int → Int → Int → Int → Int → Int → Int → Int → Int → Int → Int → Int → Int → Option (Int × Int × Int × Int × Int × Int × Int × Int × Int × Int × Int × Int × Int × Int × Int)
 | 0, _, _, _, _, _, _, _, _, _, _, _, _, _, _, _, _, _ => none
 | k + 1, x8, x9, x57, x355000, x355001, x355002, x355003, x355004, x355005, x355006, x355007, x355008, x355009, x355010, x355011, x355012, x355013 => if x57 = true then (some (0, 0, 0, 0, 0, 0, 0, 0, 0, 0, 0, 0, 0, 0, 9)) else (if (x8.size : Int) < (wrap64 (x9 + 8)) then (some (0, 0, 0, 0, 0, 0, 0, 0, 0, 0, 0, 0, 0, 0, 2)) else (if 9 < (x8.size : Int) then ((weighbridgeref09_num.f x8 12 4).bind fun t364 => ((weighbridgeref09_num.f x8 16 4).bind fun t365 => ((weighbridgeref09_num.f x8 x9 2).bind fun t366 => ((weighbridgeref09_num.f x8 (wrap64 (x9 + 2)) 2).bind fun t367 => (some (2, x355001, x355002, wrap64 (bt x8 9), (t364) % 4294967296, (t365) % 4294967296, t366, t367, x355008, x355009, x355010, x355011, wrap64 (x355001 + 8), wrap64 ((wrap64 (x355001 + 8)) + x9), 0)))))) else (none)))
end
def weighbridgeref09_about.f (k : Nat) (a0_0 : Int) (a0_1 : Int) (a0_2 : Int) (a0_3 : Int) (a0_4 : Int) (a0_5 : Int) (a0_6 : Int) (a0_7 : Int) (a0_8 : Int) (a0_9 : Int) (a0_10 : Int) (a0_11 : Int) (a0_12 : Int) (a0_13 : Int) (a1 : ByteArray) : Option (Int × Int × Int × Int × Int × Int × Int × Int × Int × Int × Int × Int × Int × Int × Int) := (weighbridgeref07_Parse.f a1).bind fun bt356 => (if bt356.2.2.2.2 = 0 then ((weighbridgeref07_Error.f bt356.1).bind fun t362 => (if t362 = true then (if (bt356.2.2.2.1.size : Int) < 20 then (some (0, 0, 0, 0, 0, 0, 0, 0, 0, 0, 0, 0, 0, 0, 2)) else (if 0 < (bt356.2.2.2.1.size : Int) then (if ((Int.tdiv (bt bt356.2.2.2.1 0) 16) % 256) = 4 then (if (wrap64 (4 * (wrap64 (Int.tmod (bt bt356.2.2.2.1 0) 16)))) < 20 then (weighbridgeref09_about.j0 k bt356.2.2.2.1 (wrap64 (4 * (wrap64 (Int.tmod (bt bt356.2.2.2.1 0) 16)))) true a0_0 a0_1 a0_2 a0_3 a0_4 a0_5 a0_6 a0_7 a0_8 a0_9 a0_10 a0_11 a0_12 a0_13) else (weighbridgeref09_about.j0 k bt356.2.2.2.1 (wrap64 (4 * (wrap64 (Int.tmod (bt bt356.2.2.2.1 0) 16)))) (decide ((wrap64 (4 * (wrap64 (Int.tmod (bt bt356.2.2.2.1 0) 16)))) > (bt356.2.2.2.1.size : Int))) a0_0 a0_1 a0_2 a0_3 a0_4 a0_5 a0_6 a0_7 a0_8 a0_9 a0_10 a0_11 a0_12 a0_13)) else (some (0, 0, 0, 0, 0, 0, 0, 0, 0, 0, 0, 0, 0, 0, 3))) else (none))) else (some (0, 0, 0, 0, 0, 0, 0, 0, 0, 0, 0, 0, 0, 0, 10)))) else (some (0, 0, 0, 0, 0, 0, 0, 0, 0, 0, 0, 0, 0, 0, bt356.2.2.2.2)))
theorem weighbridgeref09_about.mono_l : ∀ k, (∀ y0 y1 y2 y3 y4 y5 y6 y7 y8 y9 y10 y11 y12 y13 y14 y15 y16, LeO (weighbridgeref09_about.j0 k y0 y1 y2 y3 y4 y5 y6 y7 y8 y9 y10 y11 y12 y13 y14 y15 y16) (weighbridgeref09_about.j0 (k + 1) y0 y1 y2 y3 y4 y5 y6 y7 y8 y9 y10 y11 y12 y13 y14 y15 y16)) ∧ (∀ y0 y1 y2 y3 y4 y5 y6 y7 y8 y9 y10 y11 y12 y13 y14 y15 y16, LeO (weighbridgeref09_about.j1 k y0 y1 y2 y3 y4 y5 y6 y7 y8 y9 y10 y11 y12 y13 y14 y15 y16) (weighbridgeref09_about.j1 (k + 1) y0 y1 y2 y3 y4 y5 y6 y7 y8 y9 y10 y11 y12 y13 y14 y15 y16))
 | 0 => ⟨fun _ _ _ _ _ _ _ _ _ _ _ _ _ _ _ _ _ r h => by simp [weighbridgeref09_about.j0] at h, fun _ _ _ _ _ _ _ _ _ _ _ _ _ _ _ _ _ r h => by simp [weighbridgeref09_about.j1] at h⟩
 | k + 1 => by
  obtain ⟨ih0, ih1⟩ := weighbridgeref09_about.mono_l k
  refine ⟨?_, ?_⟩
  ·intro y0 y1 y2 y3 y4 y5 y6 y7 y8 y9 y10 y11 y12 y13 y14 y15 y16
   unfold weighbridgeref09_about.j0
   repeat' first
   | (with_reducible exact ih0 _ _ _ _ _ _ _ _ _ _ _ _ _ _ _ _ _)
   | (with_reducible exact ih1 _ _ _ _ _ _ _ _ _ _ _ _ _ _ _ _ _)
   | (with_reducible exact LeO.refl _)
   | (with_reducible exact LeO.none _)
   | (with_reducible refine LeO.ite ?_ ?_)
   | (with_reducible refine LeO.bind ?_ (fun _ => ?_))
   | exact ih0 _ _ _ _ _ _ _ _ _ _ _ _ _ _ _ _ _
   | exact ih1 _ _ _ _ _ _ _ _ _ _ _ _ _ _ _ _ _
   | exact LeO.none _
   | refine LeO.ite ?_ ?_
   | refine LeO.bind ?_ (fun _ => ?_)
  ·intro y0 y1 y2 y3 y4 y5 y6 y7 y8 y9 y10 y11 y12 y13 y14 y15 y16
   unfold weighbridgeref09_about.j1
   repeat' first
   | (with_reducible exact ih0 _ _ _ _ _ _ _ _ _ _ _ _ _ _ _ _ _)
   | (with_reducible exact ih1 _ _ _ _ _ _ _ _ _ _ _ _ _ _ _ _ _)
   | (with_reducible exact LeO.refl _)
   | (with_reducible exact LeO.none _)
   | (with_reducible refine LeO.ite ?_ ?_)
   | (with_reducible refine LeO.bind ?_ (fun _ => ?_))
   | exact ih0 _ _ _ _ _ _ _ _ _ _ _ _ _ _ _ _ _
   | exact ih1 _ _ _ _ _ _ _ _ _ _ _ _ _ _ _ _ _
   | exact LeO.none _
   | refine LeO.ite ?_ ?_
   | refine LeO.bind ?_ (fun _ => ?_)
theorem weighbridgeref09_about.mono : ∀ a0 a1 a2 a3 a4 a5 a6 a7 a8 a9 a10 a11 a12 a13 a14 k, LeO (weighbridgeref09_about.f k a0 a1 a2 a3 a4 a5 a6 a7 a8 a9 a10 a11 a12 a13 a14) (weighbridgeref09_about.f (k + 1) a0 a1 a2 a3 a4 a5 a6 a7 a8 a9 a10 a11 a12 a13 a14) := by
 intro a0 a1 a2 a3 a4 a5 a6 a7 a8 a9 a10 a11 a12 a13 a14 k
 obtain ⟨ih0, ih1⟩ := weighbridgeref09_about.mono_l k
 unfold weighbridgeref09_about.f
 repeat' first
   | (with_reducible exact ih0 _ _ _ _ _ _ _ _ _ _ _ _ _ _ _ _ _)
   | (with_reducible exact ih1 _ _ _ _ _ _ _ _ _ _ _ _ _ _ _ _ _)
   | (with_reducible exact LeO.refl _)
   | (with_reducible exact LeO.none _)
   | (with_reducible refine LeO.ite ?_ ?_)
   | (with_reducible refine LeO.bind ?_ (fun _ => ?_))
   | exact ih0 _ _ _ _ _ _ _ _ _ _ _ _ _ _ _ _ _
   | exact ih1 _ _ _ _ _ _ _ _ _ _ _ _ _ _ _ _ _
   | exact LeO.none _
   | refine LeO.ite ?_ ?_
   | refine LeO.bind ?_ (fun _ => ?_)
def weighbridgeref09_about.T23 : Bool × List (List Nat × List Nat) := (true, [([], []), ([0], [0]), ([1], [1]), ([], []), ([3], [3]), ([4], [4]), ([], []), ([6, 4], [6]), ([7], [7]), ([], []), ([], []), ([9, 10, 7], [9, 10]), ([], []), ([], []), ([13], [13]), ([12, 14, 11], [12, 14]), ([2, 5, 8, 11, 15], [2, 5, 8, 11, 15]), ([0, 1, 2, 3, 4, 5, 6, 7, 8, 9, 10, 11, 12, 13, 14, 15, 16], []), ([17, 16, 15, 0, 1, 2, 3, 4, 5, 6, 7, 8, 9, 10, 11, 12, 13, 14, 15, 16], [16, 17])])
def weighbridgeref09_about.B23 : List Nat := [0, 1, 3, 0, 8, 24, 0, 88, 216, 0, 0, 1752, 0, 0, 8192, 32472, 65535, 131071, 262143]
theorem weighbridgeref09_about.tab23 : rtab .any (opsOf Tryz.f69 23) = weighbridgeref09_about.T23 := by kernel_rfl
theorem weighbridgeref09_about.bits23 : waitsOk weighbridgeref09_about.T23.2 weighbridgeref09_about.B23 = true := by kernel_rfl
set_option maxHeartbeats 8000000 in
set_option maxRecDepth 100000 in
theorem weighbridgeref09_about.calls (k : Nat) (a0_0 : Int) (a0_1 : Int) (a0_2 : Int) (a0_3 : Int) (a0_4 : Int) (a0_5 : Int) (a0_6 : Int) (a0_7 : Int) (a0_8 : Int) (a0_9 : Int) (a0_10 : Int) (a0_11 : Int) (a0_12 : Int) (a0_13 : Int) (a1 : ByteArray) (r1 : Int) (r2 : Int) (r3 : Int) (r4 : Int) (r5 : Int) (r6 : Int) (r7 : Int) (r8 : Int) (r9 : Int) (r10 : Int) (r11 : Int) (r12 : Int) (r13 : Int) (r14 : Int) (r15 : Int) (w : World) (h : weighbridgeref09_about.f k a0_0 a0_1 a0_2 a0_3 a0_4 a0_5 a0_6 a0_7 a0_8 a0_9 a0_10 a0_11 a0_12 a0_13 a1 = some (r1, r2, r3, r4, r5, r6, r7, r8, r9, r10, r11, r12, r13, r14, r15)) :
  Calls Tryz.prog 69 #[.agg #[.int .i64 a0_0, .int .i64 a0_1, .int .i64 a0_2, .int .i64 a0_3, .int .u32 a0_4, .int .u32 a0_5, .int .i64 a0_6, .int .i64 a0_7, .int .i64 a0_8, .int .i64 a0_9, .int .u32 a0_10, .int .u32 a0_11, .int .i64 a0_12, .int .i64 a0_13], .string a1] w fun e w' => e = .returned (.tuple #[.agg #[.int .i64 r1, .int .i64 r2, .int .i64 r3, .int .i64 r4, .int .u32 r5, .int .u32 r6, .int .i64 r7, .int .i64 r8, .int .i64 r9, .int .i64 r10, .int .u32 r11, .int .u32 r12, .int .i64 r13, .int .i64 r14], .int .i64 r15]) ∧ Below w.heap.size w w' := by
 have hu65 := Tryz.underlying65
 have hu47 := Tryz.underlying47
 have hu49 := Tryz.underlying49
 have HB := AA (Below.refl w.heap.size w)
 have H := h
 unfold weighbridgeref09_about.f at H
 clear h
 replace H := OB H
 obtain ⟨⟨t356, t357, t358, t359, t360⟩, A3, H⟩ := H
 (try set_option simprocs false in dsimp only at H)
 by_cases c4 : t360 = 0
 rotate_left
 ·rw [if_neg c4] at H
  have c4b0 := BF c4
  have c4b1 := NT c4
  simp only [Option.some.injEq, Prod.mk.injEq] at H
  obtain ⟨rfl, rfl, rfl, rfl, rfl, rfl, rfl, rfl, rfl, rfl, rfl, rfl, rfl, rfl, rfl⟩ := H
  go_enter Tryz.func69, Tryz.ntmps69
  go_wp2_with (first | ((with_reducible refine gate_dst (N := 2) rfl ?_); (try (refine gate_guard (by rfl) ?_; dsimp only)); refine bx 2 65 (rr14 a0_0 a0_1 a0_2 a0_3 a0_4 a0_5 a0_6 a0_7 a0_8 a0_9 a0_10 a0_11 a0_12 a0_13) ?_; intro gb354 hg w89 hbox hb; have BK354 := AA hbox; have GW354 := GS hg HB; have GE354 := GS hg HB; replace HB := BS HB hb; clear hb hbox hg) | ((with_reducible refine gate_dst (N := 4) rfl ?_); (try (refine gate_guard (by rfl) ?_; dsimp only)); refine bx 4 65 (rr14 0 0 0 0 0 0 0 0 0 0 0 0 0 0) ?_; intro gb355 hg w90 hbox hb; have BK355 := AA hbox; have GW355 := GS hg HB; have GE355 := GS hg HB; replace HB := BS HB hb; have NB354_355 := AA (by rw [hg]; exact Nat.ne_of_lt (blk_lt (g := gb354) (o := .cells (rr14 a0_0 a0_1 a0_2 a0_3 a0_4 a0_5 a0_6 a0_7 a0_8 a0_9 a0_10 a0_11 a0_12 a0_13) 65 (0, 0)) (BD BK354)) : gb354 ≠ gb355); have NB355_354 := AA (by rw [hg]; exact Nat.ne_of_gt (blk_lt (g := gb354) (o := .cells (rr14 a0_0 a0_1 a0_2 a0_3 a0_4 a0_5 a0_6 a0_7 a0_8 a0_9 a0_10 a0_11 a0_12 a0_13) 65 (0, 0)) (BD BK354)) : gb355 ≠ gb354); replace BK354 := AA (blk_below (g := gb354) (o := .cells (rr14 a0_0 a0_1 a0_2 a0_3 a0_4 a0_5 a0_6 a0_7 a0_8 a0_9 a0_10 a0_11 a0_12 a0_13) 65 (0, 0)) (BD BK354) hb); clear hb hbox hg) | ((with_reducible refine gkx 97 rfl ?_); refine gL 12 Tryz.func97 rfl (weighbridgeref07_Parse.calls a1 t356 t357 t358 t359 t360 _ A3.out) ?_; rintro w91 hb; (try clear A3); replace BK354 := AA (blk_below (g := gb354) (o := .cells (rr14 a0_0 a0_1 a0_2 a0_3 a0_4 a0_5 a0_6 a0_7 a0_8 a0_9 a0_10 a0_11 a0_12 a0_13) 65 (0, 0)) (BD BK354) hb); replace BK355 := AA (blk_below (g := gb355) (o := .cells (rr14 0 0 0 0 0 0 0 0 0 0 0 0 0 0) 65 (0, 0)) (BD BK355) hb); replace HB := BS HB hb; (try clear hb)) | ((with_reducible refine gate_dst (N := 6) rfl ?_); (try (refine gate_guard (by rfl) ?_; dsimp only)); refine bx 6 47 #[.int .i64 0, .int .i64 0, .int .u32 0, .string (⟨#[]⟩ : ByteArray)] ?_; intro gb361 hg w92 hbox hb; have BK361 := AA hbox; have GW361 := GS hg HB; have GE361 := GS hg HB; replace HB := BS HB hb; have NB354_361 := AA (by rw [hg]; exact Nat.ne_of_lt (blk_lt (g := gb354) (o := .cells (rr14 a0_0 a0_1 a0_2 a0_3 a0_4 a0_5 a0_6 a0_7 a0_8 a0_9 a0_10 a0_11 a0_12 a0_13) 65 (0, 0)) (BD BK354)) : gb354 ≠ gb361); have NB361_354 := AA (by rw [hg]; exact Nat.ne_of_gt (blk_lt (g := gb354) (o := .cells (rr14 a0_0 a0_1 a0_2 a0_3 a0_4 a0_5 a0_6 a0_7 a0_8 a0_9 a0_10 a0_11 a0_12 a0_13) 65 (0, 0)) (BD BK354)) : gb361 ≠ gb354); replace BK354 := AA (blk_below (g := gb354) (o := .cells (rr14 a0_0 a0_1 a0_2 a0_3 a0_4 a0_5 a0_6 a0_7 a0_8 a0_9 a0_10 a0_11 a0_12 a0_13) 65 (0, 0)) (BD BK354) hb); have NB355_361 := AA (by rw [hg]; exact Nat.ne_of_lt (blk_lt (g := gb355) (o := .cells (rr14 0 0 0 0 0 0 0 0 0 0 0 0 0 0) 65 (0, 0)) (BD BK355)) : gb355 ≠ gb361); have NB361_355 := AA (by rw [hg]; exact Nat.ne_of_gt (blk_lt (g := gb355) (o := .cells (rr14 0 0 0 0 0 0 0 0 0 0 0 0 0 0) 65 (0, 0)) (BD BK355)) : gb361 ≠ gb355); replace BK355 := AA (blk_below (g := gb355) (o := .cells (rr14 0 0 0 0 0 0 0 0 0 0 0 0 0 0) 65 (0, 0)) (BD BK355) hb); clear hb hbox hg; have hnb93 := NB361_354.out; have hnc93 := NB354_361.out; have hnb94 := NB361_355.out; have hnc94 := NB355_361.out; have hz95 := blk4 BK361.out; have hnb96 := NB355_354.out; have hnc96 := NB354_355.out; have hz97 := blk14 BK355.out))
  refine bodyPost_ret (results_ct rfl _ _ gb355 65 #[.int .i64 0, .int .i64 0, .int .i64 0, .int .i64 0, .int .u32 0, .int .u32 0, .int .i64 0, .int .i64 0, .int .i64 0, .int .i64 0, .int .u32 0, .int .u32 0, .int .i64 0, .int .i64 0] (0, 0) _ rfl (BE BK355) Tryz.underlying65 rfl (by kernel_rfl)) rfl ?_
  exact ⟨RT, BW HB⟩
 rw [if_pos c4] at H
 have c4b0 := BT c4
 have c4b1 := NF c4
 clear c4
 replace H := OB H
 obtain ⟨t362, A5, H⟩ := H
 (try set_option simprocs false in dsimp only at H)
 by_cases c6 : t362 = true
 rotate_left
 ·replace c6 := Bool.eq_false_iff.mpr c6
  subst c6
  replace H := IFN H
  simp only [Option.some.injEq, Prod.mk.injEq] at H
  obtain ⟨rfl, rfl, rfl, rfl, rfl, rfl, rfl, rfl, rfl, rfl, rfl, rfl, rfl, rfl, rfl⟩ := H
  go_enter Tryz.func69, Tryz.ntmps69
  go_wp2_with (first | ((with_reducible refine gate_dst (N := 2) rfl ?_); (try (refine gate_guard (by rfl) ?_; dsimp only)); refine bx 2 65 (rr14 a0_0 a0_1 a0_2 a0_3 a0_4 a0_5 a0_6 a0_7 a0_8 a0_9 a0_10 a0_11 a0_12 a0_13) ?_; intro gb354 hg w80 hbox hb; have BK354 := AA hbox; have GW354 := GS hg HB; have GE354 := GS hg HB; replace HB := BS HB hb; clear hb hbox hg) | ((with_reducible refine gate_dst (N := 4) rfl ?_); (try (refine gate_guard (by rfl) ?_; dsimp only)); refine bx 4 65 (rr14 0 0 0 0 0 0 0 0 0 0 0 0 0 0) ?_; intro gb355 hg w81 hbox hb; have BK355 := AA hbox; have GW355 := GS hg HB; have GE355 := GS hg HB; replace HB := BS HB hb; have NB354_355 := AA (by rw [hg]; exact Nat.ne_of_lt (blk_lt (g := gb354) (o := .cells (rr14 a0_0 a0_1 a0_2 a0_3 a0_4 a0_5 a0_6 a0_7 a0_8 a0_9 a0_10 a0_11 a0_12 a0_13) 65 (0, 0)) (BD BK354)) : gb354 ≠ gb355); have NB355_354 := AA (by rw [hg]; exact Nat.ne_of_gt (blk_lt (g := gb354) (o := .cells (rr14 a0_0 a0_1 a0_2 a0_3 a0_4 a0_5 a0_6 a0_7 a0_8 a0_9 a0_10 a0_11 a0_12 a0_13) 65 (0, 0)) (BD BK354)) : gb355 ≠ gb354); replace BK354 := AA (blk_below (g := gb354) (o := .cells (rr14 a0_0 a0_1 a0_2 a0_3 a0_4 a0_5 a0_6 a0_7 a0_8 a0_9 a0_10 a0_11 a0_12 a0_13) 65 (0, 0)) (BD BK354) hb); clear hb hbox hg) | ((with_reducible refine gkx 97 rfl ?_); refine gL 12 Tryz.func97 rfl (weighbridgeref07_Parse.calls a1 t356 t357 t358 t359 t360 _ A3.out) ?_; rintro w82 hb; (try clear A3); replace BK354 := AA (blk_below (g := gb354) (o := .cells (rr14 a0_0 a0_1 a0_2 a0_3 a0_4 a0_5 a0_6 a0_7 a0_8 a0_9 a0_10 a0_11 a0_12 a0_13) 65 (0, 0)) (BD BK354) hb); replace BK355 := AA (blk_below (g := gb355) (o := .cells (rr14 0 0 0 0 0 0 0 0 0 0 0 0 0 0) 65 (0, 0)) (BD BK355) hb); replace HB := BS HB hb; (try clear hb)) | ((with_reducible refine gate_dst (N := 6) rfl ?_); (try (refine gate_guard (by rfl) ?_; dsimp only)); refine bx 6 47 #[.int .i64 0, .int .i64 0, .int .u32 0, .string (⟨#[]⟩ : ByteArray)] ?_; intro gb361 hg w83 hbox hb; have BK361 := AA hbox; have GW361 := GS hg HB; have GE361 := GS hg HB; replace HB := BS HB hb; have NB354_361 := AA (by rw [hg]; exact Nat.ne_of_lt (blk_lt (g := gb354) (o := .cells (rr14 a0_0 a0_1 a0_2 a0_3 a0_4 a0_5 a0_6 a0_7 a0_8 a0_9 a0_10 a0_11 a0_12 a0_13) 65 (0, 0)) (BD BK354)) : gb354 ≠ gb361); have NB361_354 := AA (by rw [hg]; exact Nat.ne_of_gt (blk_lt (g := gb354) (o := .cells (rr14 a0_0 a0_1 a0_2 a0_3 a0_4 a0_5 a0_6 a0_7 a0_8 a0_9 a0_10 a0_11 a0_12 a0_13) 65 (0, 0)) (BD BK354)) : gb361 ≠ gb354); replace BK354 := AA (blk_below (g := gb354) (o := .cells (rr14 a0_0 a0_1 a0_2 a0_3 a0_4 a0_5 a0_6 a0_7 a0_8 a0_9 a0_10 a0_11 a0_12 a0_13) 65 (0, 0)) (BD BK354) hb); have NB355_361 := AA (by rw [hg]; exact Nat.ne_of_lt (blk_lt (g := gb355) (o := .cells (rr14 0 0 0 0 0 0 0 0 0 0 0 0 0 0) 65 (0, 0)) (BD BK355)) : gb355 ≠ gb361); have NB361_355 := AA (by rw [hg]; exact Nat.ne_of_gt (blk_lt (g := gb355) (o := .cells (rr14 0 0 0 0 0 0 0 0 0 0 0 0 0 0) 65 (0, 0)) (BD BK355)) : gb361 ≠ gb355); replace BK355 := AA (blk_below (g := gb355) (o := .cells (rr14 0 0 0 0 0 0 0 0 0 0 0 0 0 0) 65 (0, 0)) (BD BK355) hb); clear hb hbox hg; have hnb84 := NB361_354.out; have hnc84 := NB354_361.out; have hnb85 := NB361_355.out; have hnc85 := NB355_361.out; have hz86 := blk4 BK361.out) | ((with_reducible refine gkx 98 rfl ?_); refine gL 21 Tryz.func98 rfl (weighbridgeref07_Error.calls t356 false _ A5.out) ?_; rintro w' ⟨nd, rfl⟩; have hnb87 := NB355_354.out; have hnc87 := NB354_355.out; have hz88 := blk14 BK355.out))
  refine bodyPost_ret (results_ct rfl _ _ gb355 65 #[.int .i64 0, .int .i64 0, .int .i64 0, .int .i64 0, .int .u32 0, .int .u32 0, .int .i64 0, .int .i64 0, .int .i64 0, .int .i64 0, .int .u32 0, .int .u32 0, .int .i64 0, .int .i64 0] (0, 0) _ rfl (BE BK355) Tryz.underlying65 rfl (by kernel_rfl)) rfl ?_
  exact ⟨RT, BW HB⟩
 subst c6
 first | rw [if_pos rfl] at H | rw [if_pos trivial] at H
 by_cases c7 : (t359.size : Int) < 20
 ·rw [if_pos c7] at H
  have c7b0 := decide_eq_true c7
  have c7b1 : decide (t359.size < 20) = true := decide_eq_true (by omega)
  clear c7
  simp only [Option.some.injEq, Prod.mk.injEq] at H
  obtain ⟨rfl, rfl, rfl, rfl, rfl, rfl, rfl, rfl, rfl, rfl, rfl, rfl, rfl, rfl, rfl⟩ := H
  go_enter Tryz.func69, Tryz.ntmps69
  go_wp2_with (first | ((with_reducible refine gate_dst (N := 2) rfl ?_); (try (refine gate_guard (by rfl) ?_; dsimp only)); refine bx 2 65 (rr14 a0_0 a0_1 a0_2 a0_3 a0_4 a0_5 a0_6 a0_7 a0_8 a0_9 a0_10 a0_11 a0_12 a0_13) ?_; intro gb354 hg w8 hbox hb; have BK354 := AA hbox; have GW354 := GS hg HB; have GE354 := GS hg HB; replace HB := BS HB hb; clear hb hbox hg) | ((with_reducible refine gate_dst (N := 4) rfl ?_); (try (refine gate_guard (by rfl) ?_; dsimp only)); refine bx 4 65 (rr14 0 0 0 0 0 0 0 0 0 0 0 0 0 0) ?_; intro gb355 hg w9 hbox hb; have BK355 := AA hbox; have GW355 := GS hg HB; have GE355 := GS hg HB; replace HB := BS HB hb; have NB354_355 := AA (by rw [hg]; exact Nat.ne_of_lt (blk_lt (g := gb354) (o := .cells (rr14 a0_0 a0_1 a0_2 a0_3 a0_4 a0_5 a0_6 a0_7 a0_8 a0_9 a0_10 a0_11 a0_12 a0_13) 65 (0, 0)) (BD BK354)) : gb354 ≠ gb355); have NB355_354 := AA (by rw [hg]; exact Nat.ne_of_gt (blk_lt (g := gb354) (o := .cells (rr14 a0_0 a0_1 a0_2 a0_3 a0_4 a0_5 a0_6 a0_7 a0_8 a0_9 a0_10 a0_11 a0_12 a0_13) 65 (0, 0)) (BD BK354)) : gb355 ≠ gb354); replace BK354 := AA (blk_below (g := gb354) (o := .cells (rr14 a0_0 a0_1 a0_2 a0_3 a0_4 a0_5 a0_6 a0_7 a0_8 a0_9 a0_10 a0_11 a0_12 a0_13) 65 (0, 0)) (BD BK354) hb); clear hb hbox hg) | ((with_reducible refine gkx 97 rfl ?_); refine gL 12 Tryz.func97 rfl (weighbridgeref07_Parse.calls a1 t356 t357 t358 t359 t360 _ A3.out) ?_; rintro w10 hb; (try clear A3); replace BK354 := AA (blk_below (g := gb354) (o := .cells (rr14 a0_0 a0_1 a0_2 a0_3 a0_4 a0_5 a0_6 a0_7 a0_8 a0_9 a0_10 a0_11 a0_12 a0_13) 65 (0, 0)) (BD BK354) hb); replace BK355 := AA (blk_below (g := gb355) (o := .cells (rr14 0 0 0 0 0 0 0 0 0 0 0 0 0 0) 65 (0, 0)) (BD BK355) hb); replace HB := BS HB hb; (try clear hb)) | ((with_reducible refine gate_dst (N := 6) rfl ?_); (try (refine gate_guard (by rfl) ?_; dsimp only)); refine bx 6 47 #[.int .i64 0, .int .i64 0, .int .u32 0, .string (⟨#[]⟩ : ByteArray)] ?_; intro gb361 hg w11 hbox hb; have BK361 := AA hbox; have GW361 := GS hg HB; have GE361 := GS hg HB; replace HB := BS HB hb; have NB354_361 := AA (by rw [hg]; exact Nat.ne_of_lt (blk_lt (g := gb354) (o := .cells (rr14 a0_0 a0_1 a0_2 a0_3 a0_4 a0_5 a0_6 a0_7 a0_8 a0_9 a0_10 a0_11 a0_12 a0_13) 65 (0, 0)) (BD BK354)) : gb354 ≠ gb361); have NB361_354 := AA (by rw [hg]; exact Nat.ne_of_gt (blk_lt (g := gb354) (o := .cells (rr14 a0_0 a0_1 a0_2 a0_3 a0_4 a0_5 a0_6 a0_7 a0_8 a0_9 a0_10 a0_11 a0_12 a0_13) 65 (0, 0)) (BD BK354)) : gb361 ≠ gb354); replace BK354 := AA (blk_below (g := gb354) (o := .cells (rr14 a0_0 a0_1 a0_2 a0_3 a0_4 a0_5 a0_6 a0_7 a0_8 a0_9 a0_10 a0_11 a0_12 a0_13) 65 (0, 0)) (BD BK354) hb); have NB355_361 := AA (by rw [hg]; exact Nat.ne_of_lt (blk_lt (g := gb355) (o := .cells (rr14 0 0 0 0 0 0 0 0 0 0 0 0 0 0) 65 (0, 0)) (BD BK355)) : gb355 ≠ gb361); have NB361_355 := AA (by rw [hg]; exact Nat.ne_of_gt (blk_lt (g := gb355) (o := .cells (rr14 0 0 0 0 0 0 0 0 0 0 0 0 0 0) 65 (0, 0)) (BD BK355)) : gb361 ≠ gb355); replace BK355 := AA (blk_below (g := gb355) (o := .cells (rr14 0 0 0 0 0 0 0 0 0 0 0 0 0 0) 65 (0, 0)) (BD BK355) hb); clear hb hbox hg; have hnb12 := NB361_354.out; have hnc12 := NB354_361.out; have hnb13 := NB361_355.out; have hnc13 := NB355_361.out; have hz14 := blk4 BK361.out) | ((with_reducible refine gkx 98 rfl ?_); refine gL 21 Tryz.func98 rfl (weighbridgeref07_Error.calls t356 true _ A5.out) ?_; rintro w' ⟨nd, rfl⟩; have hnb15 := NB355_354.out; have hnc15 := NB354_355.out; have hz16 := blk14 BK355.out))
  refine bodyPost_ret (results_ct rfl _ _ gb355 65 #[.int .i64 0, .int .i64 0, .int .i64 0, .int .i64 0, .int .u32 0, .int .u32 0, .int .i64 0, .int .i64 0, .int .i64 0, .int .i64 0, .int .u32 0, .int .u32 0, .int .i64 0, .int .i64 0] (0, 0) _ rfl (BE BK355) Tryz.underlying65 rfl (by kernel_rfl)) rfl ?_
  exact ⟨RT, BW HB⟩
 rw [if_neg c7] at H
 have c7b0 := decide_eq_false c7
 have c7b1 : decide (t359.size < 20) = false := decide_eq_false (by omega)
 clear c7
 replace H := IT H
 obtain ⟨c17, H⟩ := H
 have c17b0 := decide_eq_true c17
 have c17b1 : decide (0 < t359.size) = true := decide_eq_true (by omega)
 clear c17
 by_cases c20 : ((Int.tdiv (bt t359 0) 16) % 256) = 4
 rotate_left
 ·rw [if_neg c20] at H
  have c20b0 := BF c20
  have c20b1 := NT c20
  simp only [Option.some.injEq, Prod.mk.injEq] at H
  obtain ⟨rfl, rfl, rfl, rfl, rfl, rfl, rfl, rfl, rfl, rfl, rfl, rfl, rfl, rfl, rfl⟩ := H
  go_enter Tryz.func69, Tryz.ntmps69
  go_wp2_with (first | ((with_reducible refine gate_dst (N := 2) rfl ?_); (try (refine gate_guard (by rfl) ?_; dsimp only)); refine bx 2 65 (rr14 a0_0 a0_1 a0_2 a0_3 a0_4 a0_5 a0_6 a0_7 a0_8 a0_9 a0_10 a0_11 a0_12 a0_13) ?_; intro gb354 hg w71 hbox hb; have BK354 := AA hbox; have GW354 := GS hg HB; have GE354 := GS hg HB; replace HB := BS HB hb; clear hb hbox hg) | ((with_reducible refine gate_dst (N := 4) rfl ?_); (try (refine gate_guard (by rfl) ?_; dsimp only)); refine bx 4 65 (rr14 0 0 0 0 0 0 0 0 0 0 0 0 0 0) ?_; intro gb355 hg w72 hbox hb; have BK355 := AA hbox; have GW355 := GS hg HB; have GE355 := GS hg HB; replace HB := BS HB hb; have NB354_355 := AA (by rw [hg]; exact Nat.ne_of_lt (blk_lt (g := gb354) (o := .cells (rr14 a0_0 a0_1 a0_2 a0_3 a0_4 a0_5 a0_6 a0_7 a0_8 a0_9 a0_10 a0_11 a0_12 a0_13) 65 (0, 0)) (BD BK354)) : gb354 ≠ gb355); have NB355_354 := AA (by rw [hg]; exact Nat.ne_of_gt (blk_lt (g := gb354) (o := .cells (rr14 a0_0 a0_1 a0_2 a0_3 a0_4 a0_5 a0_6 a0_7 a0_8 a0_9 a0_10 a0_11 a0_12 a0_13) 65 (0, 0)) (BD BK354)) : gb355 ≠ gb354); replace BK354 := AA (blk_below (g := gb354) (o := .cells (rr14 a0_0 a0_1 a0_2 a0_3 a0_4 a0_5 a0_6 a0_7 a0_8 a0_9 a0_10 a0_11 a0_12 a0_13) 65 (0, 0)) (BD BK354) hb); clear hb hbox hg) | ((with_reducible refine gkx 97 rfl ?_); refine gL 12 Tryz.func97 rfl (weighbridgeref07_Parse.calls a1 t356 t357 t358 t359 t360 _ A3.out) ?_; rintro w73 hb; (try clear A3); replace BK354 := AA (blk_below (g := gb354) (o := .cells (rr14 a0_0 a0_1 a0_2 a0_3 a0_4 a0_5 a0_6 a0_7 a0_8 a0_9 a0_10 a0_11 a0_12 a0_13) 65 (0, 0)) (BD BK354) hb); replace BK355 := AA (blk_below (g := gb355) (o := .cells (rr14 0 0 0 0 0 0 0 0 0 0 0 0 0 0) 65 (0, 0)) (BD BK355) hb); replace HB := BS HB hb; (try clear hb)) | ((with_reducible refine gate_dst (N := 6) rfl ?_); (try (refine gate_guard (by rfl) ?_; dsimp only)); refine bx 6 47 #[.int .i64 0, .int .i64 0, .int .u32 0, .string (⟨#[]⟩ : ByteArray)] ?_; intro gb361 hg w74 hbox hb; have BK361 := AA hbox; have GW361 := GS hg HB; have GE361 := GS hg HB; replace HB := BS HB hb; have NB354_361 := AA (by rw [hg]; exact Nat.ne_of_lt (blk_lt (g := gb354) (o := .cells (rr14 a0_0 a0_1 a0_2 a0_3 a0_4 a0_5 a0_6 a0_7 a0_8 a0_9 a0_10 a0_11 a0_12 a0_13) 65 (0, 0)) (BD BK354)) : gb354 ≠ gb361); have NB361_354 := AA (by rw [hg]; exact Nat.ne_of_gt (blk_lt (g := gb354) (o := .cells (rr14 a0_0 a0_1 a0_2 a0_3 a0_4 a0_5 a0_6 a0_7 a0_8 a0_9 a0_10 a0_11 a0_12 a0_13) 65 (0, 0)) (BD BK354)) : gb361 ≠ gb354); replace BK354 := AA (blk_below (g := gb354) (o := .cells (rr14 a0_0 a0_1 a0_2 a0_3 a0_4 a0_5 a0_6 a0_7 a0_8 a0_9 a0_10 a0_11 a0_12 a0_13) 65 (0, 0)) (BD BK354) hb); have NB355_361 := AA (by rw [hg]; exact Nat.ne_of_lt (blk_lt (g := gb355) (o := .cells (rr14 0 0 0 0 0 0 0 0 0 0 0 0 0 0) 65 (0, 0)) (BD BK355)) : gb355 ≠ gb361); have NB361_355 := AA (by rw [hg]; exact Nat.ne_of_gt (blk_lt (g := gb355) (o := .cells (rr14 0 0 0 0 0 0 0 0 0 0 0 0 0 0) 65 (0, 0)) (BD BK355)) : gb361 ≠ gb355); replace BK355 := AA (blk_below (g := gb355) (o := .cells (rr14 0 0 0 0 0 0 0 0 0 0 0 0 0 0) 65 (0, 0)) (BD BK355) hb); clear hb hbox hg; have hnb75 := NB361_354.out; have hnc75 := NB354_361.out; have hnb76 := NB361_355.out; have hnc76 := NB355_361.out; have hz77 := blk4 BK361.out) | ((with_reducible refine gkx 98 rfl ?_); refine gL 21 Tryz.func98 rfl (weighbridgeref07_Error.calls t356 true _ A5.out) ?_; rintro w' ⟨nd, rfl⟩; have p18 : 0 ≤ (0 : Int) := (by omega); have q18 : 0 < t359.size := (by have : (0 : Int) < (t359.size : Int) := DA; omega); have hx18 : ∀ h : 0 < t359.size, ((t359[0]'h).toNat : Int) = bt t359 0 := bt_at t359 0; clear p18; have qi18 : (0 < (t359.size : Int)) = True := eq_true (DA); replace q18 := eq_true q18; have p19 : 0 ≤ (0 : Int) := (by omega); have q19 : 0 < t359.size := (by have : (0 : Int) < (t359.size : Int) := DA; omega); have hx19 : ∀ h : 0 < t359.size, ((t359[0]'h).toNat : Int) = bt t359 0 := bt_at t359 0; clear p19; have qi19 : (0 < (t359.size : Int)) = True := eq_true (DA); replace q19 := eq_true q19; have hnb78 := NB355_354.out; have hnc78 := NB354_355.out; have hz79 := blk14 BK355.out))
  refine bodyPost_ret (results_ct rfl _ _ gb355 65 #[.int .i64 0, .int .i64 0, .int .i64 0, .int .i64 0, .int .u32 0, .int .u32 0, .int .i64 0, .int .i64 0, .int .i64 0, .int .i64 0, .int .u32 0, .int .u32 0, .int .i64 0, .int .i64 0] (0, 0) _ rfl (BE BK355) Tryz.underlying65 rfl (by kernel_rfl)) rfl ?_
  exact ⟨RT, BW HB⟩
 rw [if_pos c20] at H
 have c20b0 := BT c20
 have c20b1 := NF c20
 clear c20
 have HC21 := AA H
 clear H
 go_enter Tryz.func69, Tryz.ntmps69
 go_upto_region 12 with (first | ((with_reducible refine gate_dst (N := 2) rfl ?_); (try (refine gate_guard (by rfl) ?_; dsimp only)); refine bx 2 65 (rr14 a0_0 a0_1 a0_2 a0_3 a0_4 a0_5 a0_6 a0_7 a0_8 a0_9 a0_10 a0_11 a0_12 a0_13) ?_; intro gb354 hg w22 hbox hb; have BK354 := AA hbox; have GW354 := GS hg HB; have GE354 := GS hg HB; replace HB := BS HB hb; clear hb hbox hg) | ((with_reducible refine gate_dst (N := 4) rfl ?_); (try (refine gate_guard (by rfl) ?_; dsimp only)); refine bx 4 65 (rr14 0 0 0 0 0 0 0 0 0 0 0 0 0 0) ?_; intro gb355 hg w23 hbox hb; have BK355 := AA hbox; have GW355 := GS hg HB; have GE355 := GS hg HB; replace HB := BS HB hb; have NB354_355 := AA (by rw [hg]; exact Nat.ne_of_lt (blk_lt (g := gb354) (o := .cells (rr14 a0_0 a0_1 a0_2 a0_3 a0_4 a0_5 a0_6 a0_7 a0_8 a0_9 a0_10 a0_11 a0_12 a0_13) 65 (0, 0)) (BD BK354)) : gb354 ≠ gb355); have NB355_354 := AA (by rw [hg]; exact Nat.ne_of_gt (blk_lt (g := gb354) (o := .cells (rr14 a0_0 a0_1 a0_2 a0_3 a0_4 a0_5 a0_6 a0_7 a0_8 a0_9 a0_10 a0_11 a0_12 a0_13) 65 (0, 0)) (BD BK354)) : gb355 ≠ gb354); replace BK354 := AA (blk_below (g := gb354) (o := .cells (rr14 a0_0 a0_1 a0_2 a0_3 a0_4 a0_5 a0_6 a0_7 a0_8 a0_9 a0_10 a0_11 a0_12 a0_13) 65 (0, 0)) (BD BK354) hb); clear hb hbox hg) | ((with_reducible refine gkx 97 rfl ?_); refine gL 12 Tryz.func97 rfl (weighbridgeref07_Parse.calls a1 t356 t357 t358 t359 t360 _ A3.out) ?_; rintro w24 hb; replace BK354 := AA (blk_below (g := gb354) (o := .cells (rr14 a0_0 a0_1 a0_2 a0_3 a0_4 a0_5 a0_6 a0_7 a0_8 a0_9 a0_10 a0_11 a0_12 a0_13) 65 (0, 0)) (BD BK354) hb); replace BK355 := AA (blk_below (g := gb355) (o := .cells (rr14 0 0 0 0 0 0 0 0 0 0 0 0 0 0) 65 (0, 0)) (BD BK355) hb); replace HB := BS HB hb; (try clear hb)) | ((with_reducible refine gate_dst (N := 6) rfl ?_); (try (refine gate_guard (by rfl) ?_; dsimp only)); refine bx 6 47 #[.int .i64 0, .int .i64 0, .int .u32 0, .string (⟨#[]⟩ : ByteArray)] ?_; intro gb361 hg w25 hbox hb; have BK361 := AA hbox; have GW361 := GS hg HB; have GE361 := GS hg HB; replace HB := BS HB hb; have NB354_361 := AA (by rw [hg]; exact Nat.ne_of_lt (blk_lt (g := gb354) (o := .cells (rr14 a0_0 a0_1 a0_2 a0_3 a0_4 a0_5 a0_6 a0_7 a0_8 a0_9 a0_10 a0_11 a0_12 a0_13) 65 (0, 0)) (BD BK354)) : gb354 ≠ gb361); have NB361_354 := AA (by rw [hg]; exact Nat.ne_of_gt (blk_lt (g := gb354) (o := .cells (rr14 a0_0 a0_1 a0_2 a0_3 a0_4 a0_5 a0_6 a0_7 a0_8 a0_9 a0_10 a0_11 a0_12 a0_13) 65 (0, 0)) (BD BK354)) : gb361 ≠ gb354); replace BK354 := AA (blk_below (g := gb354) (o := .cells (rr14 a0_0 a0_1 a0_2 a0_3 a0_4 a0_5 a0_6 a0_7 a0_8 a0_9 a0_10 a0_11 a0_12 a0_13) 65 (0, 0)) (BD BK354) hb); have NB355_361 := AA (by rw [hg]; exact Nat.ne_of_lt (blk_lt (g := gb355) (o := .cells (rr14 0 0 0 0 0 0 0 0 0 0 0 0 0 0) 65 (0, 0)) (BD BK355)) : gb355 ≠ gb361); have NB361_355 := AA (by rw [hg]; exact Nat.ne_of_gt (blk_lt (g := gb355) (o := .cells (rr14 0 0 0 0 0 0 0 0 0 0 0 0 0 0) 65 (0, 0)) (BD BK355)) : gb361 ≠ gb355); replace BK355 := AA (blk_below (g := gb355) (o := .cells (rr14 0 0 0 0 0 0 0 0 0 0 0 0 0 0) 65 (0, 0)) (BD BK355) hb); clear hb hbox hg; have hnb26 := NB361_354.out; have hnc26 := NB354_361.out; have hnb27 := NB361_355.out; have hnc27 := NB355_361.out; have hz28 := blk4 BK361.out) | ((with_reducible refine gkx 98 rfl ?_); refine gL 21 Tryz.func98 rfl (weighbridgeref07_Error.calls t356 true _ A5.out) ?_; rintro w' ⟨nd, rfl⟩; have p18 : 0 ≤ (0 : Int) := (by omega); have q18 : 0 < t359.size := (by have : (0 : Int) < (t359.size : Int) := DA; omega); have hx18 : ∀ h : 0 < t359.size, ((t359[0]'h).toNat : Int) = bt t359 0 := bt_at t359 0; clear p18; have qi18 : (0 < (t359.size : Int)) = True := eq_true (DA); replace q18 := eq_true q18; have p19 : 0 ≤ (0 : Int) := (by omega); have q19 : 0 < t359.size := (by have : (0 : Int) < (t359.size : Int) := DA; omega); have hx19 : ∀ h : 0 < t359.size, ((t359[0]'h).toNat : Int) = bt t359 0 := bt_at t359 0; clear p19; have qi19 : (0 < (t359.size : Int)) = True := eq_true (DA); replace q19 := eq_true q19))
 (try simp only [Act.put, List.setIfInBounds_toArray, List.set_cons_zero, List.set_cons_succ])
 go_cut [41] (fun v41 wc => ∃ (kq : Nat) (x41_20 : Bool), v41 = .bool x41_20 ∧ Aside0 (weighbridgeref09_about.j0 kq t359 (wrap64 (4 * (wrap64 (Int.tmod (bt t359 0) 16)))) x41_20 a0_0 a0_1 a0_2 a0_3 a0_4 a0_5 a0_6 a0_7 a0_8 a0_9 a0_10 a0_11 a0_12 a0_13 = some (r1, r2, r3, r4, r5, r6, r7, r8, r9, r10, r11, r12, r13, r14, r15)) ∧ Aside0 (kq ≤ k) ∧ Aside0 (wc.heap[gb354]? = some (.cells (rr14 a0_0 a0_1 a0_2 a0_3 a0_4 a0_5 a0_6 a0_7 a0_8 a0_9 a0_10 a0_11 a0_12 a0_13) 65 (0, 0))) ∧ Aside0 (wc.heap[gb355]? = some (.cells (rr14 0 0 0 0 0 0 0 0 0 0 0 0 0 0) 65 (0, 0))) ∧ Aside0 (wc.heap[gb361]? = some (.cells #[.int .i64 t356, .int .i64 t357, .int .u32 t358, .string t359] 47 (0, 0))) ∧ Aside0 (Below w.heap.size w wc))
 case first =>
  have H := HC21.out
  clear HC21
  by_cases c29 : (wrap64 (4 * (wrap64 (Int.tmod (bt t359 0) 16)))) < 20
  ·rw [if_pos c29] at H
   have c29b0 := decide_eq_true c29
   clear c29
   (first | rw [c29b0] | (simp only [i64_w, i32_w]; rw [c29b0]) | skip)
   have H' := AA H
   clear H
   go_wp2
   go_meet
   case rel => exact ⟨_, (true), (by first | rfl | (simp; done) | (congr 2; simp only [ByteArray.size_extract, ByteArray.size_append]; have : (⟨#[]⟩ : ByteArray).size = 0 := rfl; (try unfold wrap64); omega) | (simp only [ByteArray.size_extract, ByteArray.size_append, Nat.sub_zero]; done) | (congr 1; simp only [ByteArray.size_extract, ByteArray.size_append, Nat.sub_zero]; have : (⟨#[]⟩ : ByteArray).size = 0 := rfl; omega) | (simp [*]; done)), H', LR, ⟨BE BK354⟩, ⟨BE BK355⟩, ⟨BE BK361⟩, ⟨BW HB⟩⟩
  rw [if_neg c29] at H
  have c29b0 := decide_eq_false c29
  clear c29
  (first | rw [c29b0] | (simp only [i64_w, i32_w]; rw [c29b0]) | skip)
  have H' := AA H
  clear H
  go_wp2
  go_meet
  case rel => exact ⟨_, (decide ((wrap64 (4 * (wrap64 (Int.tmod (bt t359 0) 16)))) > (t359.size : Int))), (by first | rfl | (simp; done) | (congr 2; simp only [ByteArray.size_extract, ByteArray.size_append]; have : (⟨#[]⟩ : ByteArray).size = 0 := rfl; (try unfold wrap64); omega) | (simp only [ByteArray.size_extract, ByteArray.size_append, Nat.sub_zero]; done) | (congr 1; simp only [ByteArray.size_extract, ByteArray.size_append, Nat.sub_zero]; have : (⟨#[]⟩ : ByteArray).size = 0 := rfl; omega) | (simp [*]; done)), H', LR, ⟨BE BK354⟩, ⟨BE BK355⟩, ⟨BE BK361⟩, ⟨BW HB⟩⟩
 case rest =>
  clear HC21
  try clear c1; try clear p1; try clear q1; try clear hx1; try clear qi1; try clear c2; try clear p2; try clear c4; try clear c4b0; try clear c4b1; try clear c6; try clear p6; try clear c7; try clear c7b0; try clear c7b1; try clear c9; try clear c12; try clear c13; try clear c15; try clear c17; try clear c17b0; try clear c17b1; try clear p18; try clear q18; try clear hx18; try clear qi18; try clear p19; try clear q19; try clear hx19; try clear qi19; try clear c20; try clear c20b0; try clear c20b1; try clear c26; try clear c27; try clear c29; try clear c29b0; try clear hz14; try clear hz16; try clear hz28; try clear p18; try clear p19; try clear q18; try clear q19
  obtain ⟨kq, x41_20, rfl, HA, HJ20, BK354, BK355, BK361, HB⟩ := hcut
  cases kq with
  | zero => exact absurd HA.out (by simp [weighbridgeref09_about.j0])
  | succ kj20 =>
   have H := HA.out
   clear HA
   simp only [weighbridgeref09_about.j0] at H
   by_cases c30 : x41_20 = true
   ·subst c30
    first | rw [if_pos rfl] at H | rw [if_pos trivial] at H
    simp only [Option.some.injEq, Prod.mk.injEq] at H
    obtain ⟨rfl, rfl, rfl, rfl, rfl, rfl, rfl, rfl, rfl, rfl, rfl, rfl, rfl, rfl, rfl⟩ := H
    have hnb31 := NB355_354.out
    have hnc31 := NB354_355.out
    have hnb32 := NB355_361.out
    have hnc32 := NB361_355.out
    have hz33 := blk14 BK355.out
    go_wp2
    refine bodyPost_ret (results_ct rfl _ _ gb355 65 #[.int .i64 0, .int .i64 0, .int .i64 0, .int .i64 0, .int .u32 0, .int .u32 0, .int .i64 0, .int .i64 0, .int .i64 0, .int .i64 0, .int .u32 0, .int .u32 0, .int .i64 0, .int .i64 0] (0, 0) _ rfl (BE BK355) Tryz.underlying65 rfl (by kernel_rfl)) rfl ?_
    exact ⟨RT, BW HB⟩
   replace c30 := Bool.eq_false_iff.mpr c30
   subst c30
   replace H := IFN H
   replace H := OB H
   obtain ⟨t363, A34, H⟩ := H
   (try set_option simprocs false in dsimp only at H)
   by_cases c35 : (Int.tmod t363 8192) = 0
   rotate_left
   ·rw [if_neg c35] at H
    have c35b0 := BF c35
    have c35b1 := NT c35
    simp only [Option.some.injEq, Prod.mk.injEq] at H
    obtain ⟨rfl, rfl, rfl, rfl, rfl, rfl, rfl, rfl, rfl, rfl, rfl, rfl, rfl, rfl, rfl⟩ := H
    go_wp2_with (first | ((with_reducible refine gkx 99 rfl ?_); refine gL 53 Tryz.func99 rfl (weighbridgeref09_num.calls t359 6 2 t363 _ A34.out) ?_; rintro w' ⟨nd, rfl⟩; (try (rw [drewN_self wc]; generalize hq_ : World.drewN wc _ = wc; have n0_ : Aside0 (wc.heap[gb354]? = some (.cells (rr14 a0_0 a0_1 a0_2 a0_3 a0_4 a0_5 a0_6 a0_7 a0_8 a0_9 a0_10 a0_11 a0_12 a0_13) 65 (0, 0))) := ⟨by rw [← hq_]; exact (BD BK354)⟩; have n1_ : Aside0 (wc.heap[gb355]? = some (.cells (rr14 0 0 0 0 0 0 0 0 0 0 0 0 0 0) 65 (0, 0))) := ⟨by rw [← hq_]; exact (BD BK355)⟩; have n2_ : Aside0 (wc.heap[gb361]? = some (.cells #[.int .i64 t356, .int .i64 t357, .int .u32 t358, .string t359] 47 (0, 0))) := ⟨by rw [← hq_]; exact (BD BK361)⟩; have n3_ : Aside0 (Below w.heap.size w wc) := ⟨by rw [← hq_]; exact (BW HB)⟩; clear BK354 BK355 BK361 HB hq_; have BK354 := n0_; have BK355 := n1_; have BK361 := n2_; have HB := n3_; clear n0_ n1_ n2_ n3_)); have hnb68 := NB355_354.out; have hnc68 := NB354_355.out; have hnb69 := NB355_361.out; have hnc69 := NB361_355.out; have hz70 := blk14 BK355.out))
    refine bodyPost_ret (results_ct rfl _ _ gb355 65 #[.int .i64 0, .int .i64 0, .int .i64 0, .int .i64 0, .int .u32 0, .int .u32 0, .int .i64 0, .int .i64 0, .int .i64 0, .int .i64 0, .int .u32 0, .int .u32 0, .int .i64 0, .int .i64 0] (0, 0) _ rfl (BE BK355) Tryz.underlying65 rfl (by kernel_rfl)) rfl ?_
    exact ⟨RT, BW HB⟩
   rw [if_pos c35] at H
   have c35b0 := BT c35
   have c35b1 := NF c35
   clear c35
   have HC36 := AA H
   clear H
   go_upto_region 16 with (first | ((with_reducible refine gkx 99 rfl ?_); refine gL 53 Tryz.func99 rfl (weighbridgeref09_num.calls t359 6 2 t363 _ A34.out) ?_; rintro w' ⟨nd, rfl⟩))
   (try simp only [Act.put, List.setIfInBounds_toArray, List.set_cons_zero, List.set_cons_succ])
   go_cut [57] (fun v57 wc => ∃ (kq : Nat) (x57_35 : Bool), v57 = .bool x57_35 ∧ Aside0 (weighbridgeref09_about.j1 kq t359 (wrap64 (4 * (wrap64 (Int.tmod (bt t359 0) 16)))) x57_35 a0_0 a0_1 a0_2 a0_3 a0_4 a0_5 a0_6 a0_7 a0_8 a0_9 a0_10 a0_11 a0_12 a0_13 = some (r1, r2, r3, r4, r5, r6, r7, r8, r9, r10, r11, r12, r13, r14, r15)) ∧ Aside0 (kq ≤ kj20) ∧ Aside0 (wc.heap[gb354]? = some (.cells (rr14 a0_0 a0_1 a0_2 a0_3 a0_4 a0_5 a0_6 a0_7 a0_8 a0_9 a0_10 a0_11 a0_12 a0_13) 65 (0, 0))) ∧ Aside0 (wc.heap[gb355]? = some (.cells (rr14 0 0 0 0 0 0 0 0 0 0 0 0 0 0) 65 (0, 0))) ∧ Aside0 (wc.heap[gb361]? = some (.cells #[.int .i64 t356, .int .i64 t357, .int .u32 t358, .string t359] 47 (0, 0))) ∧ Aside0 (Below w.heap.size w wc))
   case first =>
    have H := HC36.out
    clear HC36
    replace H := IT H
    obtain ⟨c37, H⟩ := H
    have c37b0 := decide_eq_true c37
    have c37b1 : decide (9 < t359.size) = true := decide_eq_true (by omega)
    clear c37
    (first | rw [c37b0] | (simp only [i64_w, i32_w]; rw [c37b0]) | skip)
    by_cases c39 : (wrap64 (bt t359 9)) = 6
    ·rw [if_pos c39] at H
     have c39b0 := BT c39
     have c39b1 := NF c39
     clear c39
     have H' := AA H
     clear H
     have p38 : 0 ≤ (9 : Int) := (by omega)
     have q38 : 9 < t359.size := (by have : (9 : Int) < (t359.size : Int) := DA; omega)
     have hx38 : ∀ h : 9 < t359.size, ((t359[9]'h).toNat : Int) = bt t359 9 := bt_at t359 9
     clear p38
     have qi38 : (9 < (t359.size : Int)) = True := eq_true (DA)
     replace q38 := eq_true q38
     go_wp2
     go_meet
     case rel => exact ⟨_, (false), QS, H', ⟨by have := HJ20.out; first | omega | exact Nat.le_refl _⟩, ⟨BD BK354⟩, ⟨BD BK355⟩, ⟨BD BK361⟩, ⟨BW HB⟩⟩
    rw [if_neg c39] at H
    have c39b0 := BF c39
    have c39b1 := NT c39
    have H' := AA H
    clear H
    have p38 : 0 ≤ (9 : Int) := (by omega)
    have q38 : 9 < t359.size := (by have : (9 : Int) < (t359.size : Int) := DA; omega)
    have hx38 : ∀ h : 9 < t359.size, ((t359[9]'h).toNat : Int) = bt t359 9 := bt_at t359 9
    clear p38
    have qi38 : (9 < (t359.size : Int)) = True := eq_true (DA)
    replace q38 := eq_true q38
    have p40 : 0 ≤ (9 : Int) := (by omega)
    have q40 : 9 < t359.size := (by have : (9 : Int) < (t359.size : Int) := DA; omega)
    have hx40 : ∀ h : 9 < t359.size, ((t359[9]'h).toNat : Int) = bt t359 9 := bt_at t359 9
    clear p40
    have qi40 : (9 < (t359.size : Int)) = True := eq_true (DA)
    replace q40 := eq_true q40
    go_wp2
    go_meet
    case rel => exact ⟨_, (((wrap64 (bt t359 9)) != 17)), QS, H', ⟨by have := HJ20.out; first | omega | exact Nat.le_refl _⟩, ⟨BD BK354⟩, ⟨BD BK355⟩, ⟨BD BK361⟩, ⟨BW HB⟩⟩
   case rest =>
    clear HC36
    try clear c1; try clear p1; try clear q1; try clear hx1; try clear qi1; try clear c2; try clear p2; try clear c3; try clear p3; try clear q3; try clear hx3; try clear qi3; try clear c4; try clear c4b0; try clear c4b1; try clear p4; try clear q4; try clear hx4; try clear qi4; try clear c6; try clear p6; try clear c7; try clear c7b0; try clear c7b1; try clear c9; try clear c12; try clear c13; try clear c15; try clear c17; try clear c17b0; try clear c17b1; try clear p18; try clear q18; try clear hx18; try clear qi18; try clear p19; try clear q19; try clear hx19; try clear qi19; try clear c20; try clear c20b0; try clear c20b1; try clear c26; try clear c27; try clear c29; try clear c29b0; try clear c30; try clear c31; try clear c32; try clear c35; try clear c35b0; try clear c35b1; try clear c37; try clear c37b0; try clear c37b1; try clear p38; try clear q38; try clear hx38; try clear qi38; try clear c39; try clear c39b0; try clear c39b1; try clear p40; try clear q40; try clear hx40; try clear qi40; try clear hz14; try clear hz16; try clear hz28; try clear hz33; try clear p1; try clear p18; try clear p19; try clear p2; try clear p38; try clear p40; try clear p6; try clear q1; try clear q18; try clear q19; try clear q38; try clear q40
    obtain ⟨kq, x57_35, rfl, HA, HJ35, BK354, BK355, BK361, HB⟩ := hcut
    cases kq with
    | zero => exact absurd HA.out (by simp [weighbridgeref09_about.j1])
    | succ kj35 =>
     have H := HA.out
     clear HA
     simp only [weighbridgeref09_about.j1] at H
     by_cases c41 : x57_35 = true
     ·subst c41
      first | rw [if_pos rfl] at H | rw [if_pos trivial] at H
      simp only [Option.some.injEq, Prod.mk.injEq] at H
      obtain ⟨rfl, rfl, rfl, rfl, rfl, rfl, rfl, rfl, rfl, rfl, rfl, rfl, rfl, rfl, rfl⟩ := H
      have hnb42 := NB355_354.out
      have hnc42 := NB354_355.out
      have hnb43 := NB355_361.out
      have hnc43 := NB361_355.out
      have hz44 := blk14 BK355.out
      go_wp2
      refine bodyPost_ret (results_ct rfl _ _ gb355 65 #[.int .i64 0, .int .i64 0, .int .i64 0, .int .i64 0, .int .u32 0, .int .u32 0, .int .i64 0, .int .i64 0, .int .i64 0, .int .i64 0, .int .u32 0, .int .u32 0, .int .i64 0, .int .i64 0] (0, 0) _ rfl (BE BK355) Tryz.underlying65 rfl (by kernel_rfl)) rfl ?_
      exact ⟨RT, BW HB⟩
     replace c41 := Bool.eq_false_iff.mpr c41
     subst c41
     replace H := IFN H
     by_cases c45 : (t359.size : Int) < (wrap64 ((wrap64 (4 * (wrap64 (Int.tmod (bt t359 0) 16)))) + 8))
     ·rw [if_pos c45] at H
      have c45b0 := decide_eq_true c45
      clear c45
      simp only [Option.some.injEq, Prod.mk.injEq] at H
      obtain ⟨rfl, rfl, rfl, rfl, rfl, rfl, rfl, rfl, rfl, rfl, rfl, rfl, rfl, rfl, rfl⟩ := H
      have hnb46 := NB355_354.out
      have hnc46 := NB354_355.out
      have hnb47 := NB355_361.out
      have hnc47 := NB361_355.out
      have hz48 := blk14 BK355.out
      go_wp2
      refine bodyPost_ret (results_ct rfl _ _ gb355 65 #[.int .i64 0, .int .i64 0, .int .i64 0, .int .i64 0, .int .u32 0, .int .u32 0, .int .i64 0, .int .i64 0, .int .i64 0, .int .i64 0, .int .u32 0, .int .u32 0, .int .i64 0, .int .i64 0] (0, 0) _ rfl (BE BK355) Tryz.underlying65 rfl (by kernel_rfl)) rfl ?_
      exact ⟨RT, BW HB⟩
     rw [if_neg c45] at H
     have c45b0 := decide_eq_false c45
     clear c45
     replace H := IT H
     obtain ⟨c49, H⟩ := H
     have c49b0 := decide_eq_true c49
     have c49b1 : decide (9 < t359.size) = true := decide_eq_true (by omega)
     clear c49
     replace H := OB H
     obtain ⟨t364, A51, H⟩ := H
     (try set_option simprocs false in dsimp only at H)
     replace H := OB H
     obtain ⟨t365, A52, H⟩ := H
     (try set_option simprocs false in dsimp only at H)
     replace H := OB H
     obtain ⟨t366, A53, H⟩ := H
     (try set_option simprocs false in dsimp only at H)
     replace H := OB H
     obtain ⟨t367, A54, H⟩ := H
     (try set_option simprocs false in dsimp only at H)
     simp only [Option.some.injEq, Prod.mk.injEq] at H
     obtain ⟨rfl, rfl, rfl, rfl, rfl, rfl, rfl, rfl, rfl, rfl, rfl, rfl, rfl, rfl, rfl⟩ := H
     have hnb55 := NB354_355.out
     have hnc55 := NB355_354.out
     have hnb56 := NB354_361.out
     have hnc56 := NB361_354.out
     have hz57 := blk14 BK354.out
     try go_wp2
     have n0_ : Aside0 ((((wc.setCell ⟨gb354, 0, none⟩ (.int .i64 2)).setCell ⟨gb354, 12, none⟩ (.int .i64 (wrap64 (a0_1 + 8)))).setCell ⟨gb354, 13, none⟩ (.int .i64 (wrap64 ((wrap64 (a0_1 + 8)) + (wrap64 (4 * (wrap64 (Int.tmod (bt t359 0) 16)))))))).heap[gb354]? = some (.cells (rr14 2 a0_1 a0_2 a0_3 a0_4 a0_5 a0_6 a0_7 a0_8 a0_9 a0_10 a0_11 (wrap64 (a0_1 + 8)) (wrap64 ((wrap64 (a0_1 + 8)) + (wrap64 (4 * (wrap64 (Int.tmod (bt t359 0) 16))))))) 65 (0, 0))) := ⟨BE BK354⟩
     have n1_ : Aside0 ((((wc.setCell ⟨gb354, 0, none⟩ (.int .i64 2)).setCell ⟨gb354, 12, none⟩ (.int .i64 (wrap64 (a0_1 + 8)))).setCell ⟨gb354, 13, none⟩ (.int .i64 (wrap64 ((wrap64 (a0_1 + 8)) + (wrap64 (4 * (wrap64 (Int.tmod (bt t359 0) 16)))))))).heap[gb355]? = some (.cells (rr14 0 0 0 0 0 0 0 0 0 0 0 0 0 0) 65 (0, 0))) := ⟨BE BK355⟩
     have n2_ : Aside0 ((((wc.setCell ⟨gb354, 0, none⟩ (.int .i64 2)).setCell ⟨gb354, 12, none⟩ (.int .i64 (wrap64 (a0_1 + 8)))).setCell ⟨gb354, 13, none⟩ (.int .i64 (wrap64 ((wrap64 (a0_1 + 8)) + (wrap64 (4 * (wrap64 (Int.tmod (bt t359 0) 16)))))))).heap[gb361]? = some (.cells #[.int .i64 t356, .int .i64 t357, .int .u32 t358, .string t359] 47 (0, 0))) := ⟨BE BK361⟩
     have n3_ : Aside0 (Below w.heap.size w (((wc.setCell ⟨gb354, 0, none⟩ (.int .i64 2)).setCell ⟨gb354, 12, none⟩ (.int .i64 (wrap64 (a0_1 + 8)))).setCell ⟨gb354, 13, none⟩ (.int .i64 (wrap64 ((wrap64 (a0_1 + 8)) + (wrap64 (4 * (wrap64 (Int.tmod (bt t359 0) 16))))))))) := ⟨BW HB⟩
     try clear BK354; try clear BK355; try clear BK361; try clear HB
     generalize (((wc.setCell ⟨gb354, 0, none⟩ (.int .i64 2)).setCell ⟨gb354, 12, none⟩ (.int .i64 (wrap64 (a0_1 + 8)))).setCell ⟨gb354, 13, none⟩ (.int .i64 (wrap64 ((wrap64 (a0_1 + 8)) + (wrap64 (4 * (wrap64 (Int.tmod (bt t359 0) 16)))))))) = w58 at n0_ n1_ n2_ n3_ ⊢
     have BK354 := n0_
     have BK355 := n1_
     have BK361 := n2_
     have HB := n3_
     clear n0_ n1_ n2_ n3_
     replace BK354 := AA (blk_drew BK354.out)
     replace BK355 := AA (blk_drew BK355.out)
     replace BK361 := AA (blk_drew BK361.out)
     replace HB := AA (below_drew1 HB.out)
     have p50 : 0 ≤ (9 : Int) := (by omega)
     have q50 : 9 < t359.size := (by have : (9 : Int) < (t359.size : Int) := DA; omega)
     have hx50 : ∀ h : 9 < t359.size, ((t359[9]'h).toNat : Int) = bt t359 9 := bt_at t359 9
     clear p50
     have qi50 : (9 < (t359.size : Int)) = True := eq_true (DA)
     replace q50 := eq_true q50
     refine start_ (n := 19) (S := fun w' => True) (ds := []) (bm 19 0x0) (by kernel_rfl) rfl rfl trivial (fun hHeld => ?_); refine with_tabW weighbridgeref09_about.tab23 weighbridgeref09_about.bits23 (fun HT_ HW_ => ?_)
     generalize w58.drew = w59 at BK354 BK355 BK361 HB hHeld ⊢
     refine pu 0 86 (bm 19 0x1) HT_ ?_
     refine pu 3 89 (bm 19 0x9) HT_ ?_
     refine pu 6 92 (bm 19 0x49) HT_ ?_
     refine pu 9 95 (bm 19 0x249) HT_ ?_
     refine pu 10 96 (bm 19 0x649) HT_ ?_
     refine pu 12 98 (bm 19 0x1649) HT_ ?_
     refine pu 13 99 (bm 19 0x3649) HT_ ?_
     refine pu 14 100 (bm 19 0x7649) HT_ ?_
     refine take_ (i := 1) (N := some 87) (v := ?_) (a' := ?_) (bm 19 0x764b) rfl rfl (take_ofW HT_.out HW_.out (by kernel_rfl)) (fun _ _ _ h => h) (Or.inl ⟨by rfl, ?_⟩) hHeld ?_ ?_
     rotate_left
     ·intro w' _
      go_simp
      with_reducible rfl
     rotate_left
     ·simp only [Act.put, zpA, zpO, zpS, i64_w, i32_w]
      rfl
     refine pu 2 88 (bm 19 0x764f) HT_ ?_
     refine oN 4 90 (bm 19 0x765f) HT_ (fun K hK => ?_)
     refine gR Tryz.func99 rfl rfl (weighbridgeref09_num.calls t359 12 4 t364 _ A51.out) ?_
     rintro w' ⟨nd, rfl⟩
     refine hK.out _ _ trivial (fun hHeld => ?_)
     clear hK K
     refine nm 90 ?_
     refine pu 5 91 (bm 19 0x767f) HT_ ?_
     refine oN 7 93 (bm 19 0x76ff) HT_ (fun K hK => ?_)
     refine gR Tryz.func99 rfl rfl (weighbridgeref09_num.calls t359 16 4 t365 _ A52.out) ?_
     rintro w' ⟨nd, rfl⟩
     refine hK.out _ _ trivial (fun hHeld => ?_)
     clear hK K
     refine nm 93 ?_
     refine pu 8 94 (bm 19 0x77ff) HT_ ?_
     refine oN 11 97 (bm 19 0x7fff) HT_ (fun K hK => ?_)
     refine gR Tryz.func99 rfl rfl (weighbridgeref09_num.calls t359 (wrap64 (4 * (wrap64 (Int.tmod (bt t359 0) 16)))) 2 t366 _ A53.out) ?_
     rintro w' ⟨nd, rfl⟩
     refine hK.out _ _ trivial (fun hHeld => ?_)
     clear hK K
     refine nm 97 ?_
     refine oN 15 101 (bm 19 0xffff) HT_ (fun K hK => ?_)
     refine gR Tryz.func99 rfl rfl (weighbridgeref09_num.calls t359 (wrap64 ((wrap64 (4 * (wrap64 (Int.tmod (bt t359 0) 16)))) + 2)) 2 t367 _ A54.out) ?_
     rintro w' ⟨nd, rfl⟩
     refine hK.out _ _ trivial (fun hHeld => ?_)
     clear hK K
     refine nm 101 ?_
     refine pu 16 102 (bm 19 0x1ffff) HT_ ?_
     refine pu 17 103 (bm 19 0x3ffff) HT_ ?_
     refine one_ (i := 18) (N := none) (bm 19 0x7ffff) rfl rfl (one_of HT_.out (by kernel_rfl)) (by decide) (fun K hK => ?_)
     have hs60 : w59.cell? ⟨gb354, 3, none⟩ = some (.int .i64 a0_3) := (blk_cell BK354.out 3).trans rfl
     have hfs60 := blk_frozen BK354.out 3
     have hns60_1 := NB355_354.out
     have hns60_2 := NB361_354.out
     have hms60_1 := NB354_355.out
     have hms60_2 := NB354_361.out
     have hs61 : w59.cell? ⟨gb354, 4, none⟩ = some (.int .u32 a0_4) := (blk_cell BK354.out 4).trans rfl
     have hfs61 := blk_frozen BK354.out 4
     have hns61_1 := NB355_354.out
     have hns61_2 := NB361_354.out
     have hms61_1 := NB354_355.out
     have hms61_2 := NB354_361.out
     have hs62 : w59.cell? ⟨gb354, 5, none⟩ = some (.int .u32 a0_5) := (blk_cell BK354.out 5).trans rfl
     have hfs62 := blk_frozen BK354.out 5
     have hns62_1 := NB355_354.out
     have hns62_2 := NB361_354.out
     have hms62_1 := NB354_355.out
     have hms62_2 := NB354_361.out
     have hs63 : w59.cell? ⟨gb354, 6, none⟩ = some (.int .i64 a0_6) := (blk_cell BK354.out 6).trans rfl
     have hfs63 := blk_frozen BK354.out 6
     have hns63_1 := NB355_354.out
     have hns63_2 := NB361_354.out
     have hms63_1 := NB354_355.out
     have hms63_2 := NB354_361.out
     have hs64 : w59.cell? ⟨gb354, 7, none⟩ = some (.int .i64 a0_7) := (blk_cell BK354.out 7).trans rfl
     have hfs64 := blk_frozen BK354.out 7
     have hns64_1 := NB355_354.out
     have hns64_2 := NB361_354.out
     have hms64_1 := NB354_355.out
     have hms64_2 := NB354_361.out
     refine skip_ (w1 := ?_) (by rfl) rfl ?_ ?_
     rotate_left
     ·go_simp
      rfl
     refine hK.out _ _ trivial (fun hHeld => ?_)
     clear hK K
     refine done_ (done_of HT_.out (by kernel_rfl)) ?_
     have hz65 := blk14 BK354.out
     have hnb66 := NB355_361.out
     have hnc66 := NB361_355.out
     have hz67 := blk14 BK355.out
     try go_wp2
     refine bodyPost_ret (results_ct rfl _ _ gb355 65 #[.int .i64 2, .int .i64 a0_1, .int .i64 a0_2, .int .i64 (wrap64 (bt t359 9)), .int .u32 ((t364) % 4294967296), .int .u32 ((t365) % 4294967296), .int .i64 t366, .int .i64 t367, .int .i64 a0_8, .int .i64 a0_9, .int .u32 a0_10, .int .u32 a0_11, .int .i64 (wrap64 (a0_1 + 8)), .int .i64 (wrap64 ((wrap64 (a0_1 + 8)) + (wrap64 (4 * (wrap64 (Int.tmod (bt t359 0) 16))))))] (0, 0) _ rfl (BE BK355) Tryz.underlying65 rfl (by kernel_rfl)) rfl ?_
     exact ⟨RT, BW HB⟩

end Go.Proofs.YtfnjohklmpiboaaGreat.Pr
