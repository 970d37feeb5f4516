-- Written by a program of the session (wip/tools) out of the translation, over the kit's print; with pieces of the session's own.
import Derived.Test.YtfnjohklmpiboaaPr0
import Derived.Test.YtfnjohklmpiboaaPr4
import Derived.Test.YtfnjohklmpiboaaPr5
import Derived.Test.YtfnjohklmpiboaaPr21
namespace Go.Proofs.Ytfnjohklmpiboaa.Pr
open Go.RowKit Go.Proofs.YtfnjohklmpiboaaW.PrintWords Go.Proofs.YtfnjohklmpiboaaW.PrintLast Go.Proofs.YtfnjohklmpiboaaW.PrintMore
attribute [local go_sem] max2_int min2_int max_two min_two max_three min_three max_four min_four   -- for this text's walks alone
set_option linter.unusedVariables false
set_option linter.unusedSimpArgs false
open Go.Proofs.Ytfnjohklmpiboaa.Sp
/-! ### weighbridgeref10_ready: function 26 -/
def weighbridgeref10_ready.j0 : Nat → Bool → Int → Int → Int → Int → Int → Int → Int → Int → Int → Int → Int → Int → Int → Int → Option (Int × Int × Int × Int × Int × Int × Int × Int × Int × Int × Int × Int × Int × Int × Int)
 | 0, _, _, _, _, _, _, _, _, _, _, _, _, _, _, _ => none
 | k + 1, x42, x440000, x440001, x440002, x440003, x440004, x440005, x440006, x440007, x440008, x440009, x440010, x440011, x440012, x440013 => if x42 = true then (some (x440000, x440001, x440002, x440003, x440004, x440005, x440006, x440007, x440008, x440009, x440010, x440011, x440012, x440013, 1)) else (if x440009 < 2 then (some (x440000, x440001, x440002, x440003, x440004, x440005, x440006, x440007, x440008, x440009, x440010, x440011, x440012, x440013, 11)) else (some (x440000, x440001, x440002, x440003, x440004, x440005, x440006, x440007, x440008, x440009, x440010, x440011, x440012, x440013, 0)))
def weighbridgeref10_ready.f (k : Nat) (a0 : ByteArray) (a1 : Int) (a2_0 : Int) (a2_1 : Int) (a2_2 : Int) (a2_3 : Int) : Option (Int × Int × Int × Int × Int × Int × Int × Int × Int × Int × Int × Int × Int × Int × Int) := (weighbridgeref09_Classify.f k a0).bind fun bt424 => (if bt424.2.2.2.2.2.2.2.2.2.2.2.2.2.2 = 0 then (if bt424.1 = a1 then (if a2_2 < 0 then (weighbridgeref10_ready.j0 k true bt424.1 bt424.2.1 bt424.2.2.1 bt424.2.2.2.1 bt424.2.2.2.2.1 bt424.2.2.2.2.2.1 bt424.2.2.2.2.2.2.1 bt424.2.2.2.2.2.2.2.1 bt424.2.2.2.2.2.2.2.2.1 bt424.2.2.2.2.2.2.2.2.2.1 bt424.2.2.2.2.2.2.2.2.2.2.1 bt424.2.2.2.2.2.2.2.2.2.2.2.1 bt424.2.2.2.2.2.2.2.2.2.2.2.2.1 bt424.2.2.2.2.2.2.2.2.2.2.2.2.2.1) else (if a2_2 > 65535 then (weighbridgeref10_ready.j0 k true bt424.1 bt424.2.1 bt424.2.2.1 bt424.2.2.2.1 bt424.2.2.2.2.1 bt424.2.2.2.2.2.1 bt424.2.2.2.2.2.2.1 bt424.2.2.2.2.2.2.2.1 bt424.2.2.2.2.2.2.2.2.1 bt424.2.2.2.2.2.2.2.2.2.1 bt424.2.2.2.2.2.2.2.2.2.2.1 bt424.2.2.2.2.2.2.2.2.2.2.2.1 bt424.2.2.2.2.2.2.2.2.2.2.2.2.1 bt424.2.2.2.2.2.2.2.2.2.2.2.2.2.1) else (if a2_3 < 0 then (weighbridgeref10_ready.j0 k true bt424.1 bt424.2.1 bt424.2.2.1 bt424.2.2.2.1 bt424.2.2.2.2.1 bt424.2.2.2.2.2.1 bt424.2.2.2.2.2.2.1 bt424.2.2.2.2.2.2.2.1 bt424.2.2.2.2.2.2.2.2.1 bt424.2.2.2.2.2.2.2.2.2.1 bt424.2.2.2.2.2.2.2.2.2.2.1 bt424.2.2.2.2.2.2.2.2.2.2.2.1 bt424.2.2.2.2.2.2.2.2.2.2.2.2.1 bt424.2.2.2.2.2.2.2.2.2.2.2.2.2.1) else (weighbridgeref10_ready.j0 k (decide (a2_3 > 65535)) bt424.1 bt424.2.1 bt424.2.2.1 bt424.2.2.2.1 bt424.2.2.2.2.1 bt424.2.2.2.2.2.1 bt424.2.2.2.2.2.2.1 bt424.2.2.2.2.2.2.2.1 bt424.2.2.2.2.2.2.2.2.1 bt424.2.2.2.2.2.2.2.2.2.1 bt424.2.2.2.2.2.2.2.2.2.2.1 bt424.2.2.2.2.2.2.2.2.2.2.2.1 bt424.2.2.2.2.2.2.2.2.2.2.2.2.1 bt424.2.2.2.2.2.2.2.2.2.2.2.2.2.1)))) else (weighbridgeref10_ready.j0 k true bt424.1 bt424.2.1 bt424.2.2.1 bt424.2.2.2.1 bt424.2.2.2.2.1 bt424.2.2.2.2.2.1 bt424.2.2.2.2.2.2.1 bt424.2.2.2.2.2.2.2.1 bt424.2.2.2.2.2.2.2.2.1 bt424.2.2.2.2.2.2.2.2.2.1 bt424.2.2.2.2.2.2.2.2.2.2.1 bt424.2.2.2.2.2.2.2.2.2.2.2.1 bt424.2.2.2.2.2.2.2.2.2.2.2.2.1 bt424.2.2.2.2.2.2.2.2.2.2.2.2.2.1)) else (some (bt424.1, bt424.2.1, bt424.2.2.1, bt424.2.2.2.1, bt424.2.2.2.2.1, bt424.2.2.2.2.2.1, bt424.2.2.2.2.2.2.1, bt424.2.2.2.2.2.2.2.1, bt424.2.2.2.2.2.2.2.2.1, bt424.2.2.2.2.2.2.2.2.2.1, bt424.2.2.2.2.2.2.2.2.2.2.1, bt424.2.2.2.2.2.2.2.2.2.2.2.1, bt424.2.2.2.2.2.2.2.2.2.2.2.2.1, bt424.2.2.2.2.2.2.2.2.2.2.2.2.2.1, bt424.2.2.2.2.2.2.2.2.2.2.2.2.2.2)))
theorem weighbridgeref10_ready.mono_l : ∀ k, (∀ y0 y1 y2 y3 y4 y5 y6 y7 y8 y9 y10 y11 y12 y13 y14, LeO (weighbridgeref10_ready.j0 k y0 y1 y2 y3 y4 y5 y6 y7 y8 y9 y10 y11 y12 y13 y14) (weighbridgeref10_ready.j0 (k + 1) y0 y1 y2 y3 y4 y5 y6 y7 y8 y9 y10 y11 y12 y13 y14))
 | 0 => fun _ _ _ _ _ _ _ _ _ _ _ _ _ _ _ r h => by simp [weighbridgeref10_ready.j0] at h
 | k + 1 => by
  have ih0 := weighbridgeref10_ready.mono_l k
  ·intro y0 y1 y2 y3 y4 y5 y6 y7 y8 y9 y10 y11 y12 y13 y14
   unfold weighbridgeref10_ready.j0
   repeat' first
   | (with_reducible exact ih0 _ _ _ _ _ _ _ _ _ _ _ _ _ _ _)
   | (with_reducible exact weighbridgeref09_Classify.mono _ _)
   | (with_reducible exact LeO.refl _)
   | (with_reducible exact LeO.none _)
   | (with_reducible refine LeO.ite ?_ ?_)
   | (with_reducible refine LeO.bind ?_ (fun _ => ?_))
   | exact ih0 _ _ _ _ _ _ _ _ _ _ _ _ _ _ _
   | exact weighbridgeref09_Classify.mono _ _
   | exact LeO.none _
   | refine LeO.ite ?_ ?_
   | refine LeO.bind ?_ (fun _ => ?_)
theorem weighbridgeref10_ready.mono : ∀ a0 a1 a2 a3 a4 a5 k, LeO (weighbridgeref10_ready.f k a0 a1 a2 a3 a4 a5) (weighbridgeref10_ready.f (k + 1) a0 a1 a2 a3 a4 a5) := by
 intro a0 a1 a2 a3 a4 a5 k
 have ih0 := weighbridgeref10_ready.mono_l k
 unfold weighbridgeref10_ready.f
 repeat' first
   | (with_reducible exact ih0 _ _ _ _ _ _ _ _ _ _ _ _ _ _ _)
   | (with_reducible exact weighbridgeref09_Classify.mono _ _)
   | (with_reducible exact LeO.refl _)
   | (with_reducible exact LeO.none _)
   | (with_reducible refine LeO.ite ?_ ?_)
   | (with_reducible refine LeO.bind ?_ (fun _ => ?_))
   | exact ih0 _ _ _ _ _ _ _ _ _ _ _ _ _ _ _
   | exact weighbridgeref09_Classify.mono _ _
   | exact LeO.none _
   | refine LeO.ite ?_ ?_
   | refine LeO.bind ?_ (fun _ => ?_)
set_option maxHeartbeats 8000000 in
set_option maxRecDepth 100000 in
theorem weighbridgeref10_ready.calls (k : Nat) (a0 : ByteArray) (a1 : Int) (a2_0 : Int) (a2_1 : Int) (a2_2 : Int) (a2_3 : Int) (r1 : Int) (r2 : Int) (r3 : Int) (r4 : Int) (r5 : Int) (r6 : Int) (r7 : Int) (r8 : Int) (r9 : Int) (r10 : Int) (r11 : Int) (r12 : Int) (r13 : Int) (r14 : Int) (r15 : Int) (w : World) (h : weighbridgeref10_ready.f k a0 a1 a2_0 a2_1 a2_2 a2_3 = some (r1, r2, r3, r4, r5, r6, r7, r8, r9, r10, r11, r12, r13, r14, r15)) :
  Calls Try.prog 26 #[.string a0, .int .i64 a1, .agg #[.int .u32 a2_0, .int .u32 a2_1, .int .i64 a2_2, .int .i64 a2_3]] w fun e w' => e = .returned (.tuple #[.agg #[.int .i64 r1, .int .i64 r2, .int .i64 r3, .int .i64 r4, .int .u32 r5, .int .u32 r6, .int .i64 r7, .int .i64 r8, .int .i64 r9, .int .i64 r10, .int .u32 r11, .int .u32 r12, .int .i64 r13, .int .i64 r14], .int .i64 r15]) ∧ Below w.heap.size w w' := by
 have hu36 := Try.underlying36
 have hu69 := Try.underlying69
 have HB := AA (Below.refl w.heap.size w)
 have H := h
 unfold weighbridgeref10_ready.f at H
 clear h
 replace H := OB H
 obtain ⟨⟨t424, t425, t426, t427, t428, t429, t430, t431, t432, t433, t434, t435, t436, t437, t438⟩, A4, H⟩ := H
 (try set_option simprocs false in dsimp only at H)
 by_cases c5 : t438 = 0
 rotate_left
 ·rw [if_neg c5] at H
  have c5b0 := BF c5
  have c5b1 := NT c5
  simp only [Option.some.injEq, Prod.mk.injEq] at H
  obtain ⟨rfl, rfl, rfl, rfl, rfl, rfl, rfl, rfl, rfl, rfl, rfl, rfl, rfl, rfl, rfl⟩ := H
  go_enter Try.func26, Try.ntmps26
  go_wp2_with (first | ((with_reducible refine gate_dst (N := 5) rfl ?_); refine bx 5 36 #[.int .u32 a2_0, .int .u32 a2_1, .int .i64 a2_2, .int .i64 a2_3] ?_; intro gb422 hg w58 hbox hb; have BK422 := AA hbox; have GW422 := GS hg HB; have GE422 := GS hg HB; replace HB := BS HB hb; clear hb hbox hg) | ((with_reducible refine gate_dst (N := 6) rfl ?_); refine bx 6 69 (rr14 0 0 0 0 0 0 0 0 0 0 0 0 0 0) ?_; intro gb423 hg w59 hbox hb; have BK423 := AA hbox; have GW423 := GS hg HB; have GE423 := GS hg HB; replace HB := BS HB hb; have NB422_423 := AA (by rw [hg]; exact Nat.ne_of_lt (blk_lt (g := gb422) (o := .cells #[.int .u32 a2_0, .int .u32 a2_1, .int .i64 a2_2, .int .i64 a2_3] 36 (0, 0)) (BD BK422)) : gb422 ≠ gb423); have NB423_422 := AA (by rw [hg]; exact Nat.ne_of_gt (blk_lt (g := gb422) (o := .cells #[.int .u32 a2_0, .int .u32 a2_1, .int .i64 a2_2, .int .i64 a2_3] 36 (0, 0)) (BD BK422)) : gb423 ≠ gb422); replace BK422 := AA (blk_below (g := gb422) (o := .cells #[.int .u32 a2_0, .int .u32 a2_1, .int .i64 a2_2, .int .i64 a2_3] 36 (0, 0)) (BD BK422) hb); clear hb hbox hg) | ((with_reducible refine gkx 49 rfl ?_); refine gL 12 Try.func49 rfl (weighbridgeref09_Classify.calls k a0 t424 t425 t426 t427 t428 t429 t430 t431 t432 t433 t434 t435 t436 t437 t438 _ A4.out) ?_; rintro w60 hb; (try clear A4); replace BK422 := AA (blk_below (g := gb422) (o := .cells #[.int .u32 a2_0, .int .u32 a2_1, .int .i64 a2_2, .int .i64 a2_3] 36 (0, 0)) (BD BK422) hb); replace BK423 := AA (blk_below (g := gb423) (o := .cells (rr14 0 0 0 0 0 0 0 0 0 0 0 0 0 0) 69 (0, 0)) (BD BK423) hb); replace HB := BS HB hb; (try clear hb)) | ((with_reducible refine gate_dst (N := 8) rfl ?_); refine bx 8 69 (rr14 0 0 0 0 0 0 0 0 0 0 0 0 0 0) ?_; intro gb439 hg w61 hbox hb; have BK439 := AA hbox; have GW439 := GS hg HB; have GE439 := GS hg HB; replace HB := BS HB hb; have NB422_439 := AA (by rw [hg]; exact Nat.ne_of_lt (blk_lt (g := gb422) (o := .cells #[.int .u32 a2_0, .int .u32 a2_1, .int .i64 a2_2, .int .i64 a2_3] 36 (0, 0)) (BD BK422)) : gb422 ≠ gb439); have NB439_422 := AA (by rw [hg]; exact Nat.ne_of_gt (blk_lt (g := gb422) (o := .cells #[.int .u32 a2_0, .int .u32 a2_1, .int .i64 a2_2, .int .i64 a2_3] 36 (0, 0)) (BD BK422)) : gb439 ≠ gb422); replace BK422 := AA (blk_below (g := gb422) (o := .cells #[.int .u32 a2_0, .int .u32 a2_1, .int .i64 a2_2, .int .i64 a2_3] 36 (0, 0)) (BD BK422) hb); have NB423_439 := AA (by rw [hg]; exact Nat.ne_of_lt (blk_lt (g := gb423) (o := .cells (rr14 0 0 0 0 0 0 0 0 0 0 0 0 0 0) 69 (0, 0)) (BD BK423)) : gb423 ≠ gb439); have NB439_423 := AA (by rw [hg]; exact Nat.ne_of_gt (blk_lt (g := gb423) (o := .cells (rr14 0 0 0 0 0 0 0 0 0 0 0 0 0 0) 69 (0, 0)) (BD BK423)) : gb439 ≠ gb423); replace BK423 := AA (blk_below (g := gb423) (o := .cells (rr14 0 0 0 0 0 0 0 0 0 0 0 0 0 0) 69 (0, 0)) (BD BK423) hb); clear hb hbox hg; have hnb62 := NB439_422.out; have hnc62 := NB422_439.out; have hnb63 := NB439_423.out; have hnc63 := NB423_439.out; have hz64 := blk14 BK439.out; have hnb65 := NB423_422.out; have hnc65 := NB422_423.out; have hz66 := blk14 BK423.out))
  refine bodyPost_ret (results_ct rfl _ _ gb423 69 #[.int .i64 t424, .int .i64 t425, .int .i64 t426, .int .i64 t427, .int .u32 t428, .int .u32 t429, .int .i64 t430, .int .i64 t431, .int .i64 t432, .int .i64 t433, .int .u32 t434, .int .u32 t435, .int .i64 t436, .int .i64 t437] (0, 0) _ rfl (BE BK423) Try.underlying69 rfl (by kernel_rfl)) rfl ?_
  exact ⟨RT, BW HB⟩
 rw [if_pos c5] at H
 have c5b0 := BT c5
 have c5b1 := NF c5
 clear c5
 have HC6 := AA H
 clear H
 go_enter Try.func26, Try.ntmps26
 go_upto_region 4 with (first | ((with_reducible refine gate_dst (N := 5) rfl ?_); refine bx 5 36 #[.int .u32 a2_0, .int .u32 a2_1, .int .i64 a2_2, .int .i64 a2_3] ?_; intro gb422 hg w7 hbox hb; have BK422 := AA hbox; have GW422 := GS hg HB; have GE422 := GS hg HB; replace HB := BS HB hb; clear hb hbox hg) | ((with_reducible refine gate_dst (N := 6) rfl ?_); refine bx 6 69 (rr14 0 0 0 0 0 0 0 0 0 0 0 0 0 0) ?_; intro gb423 hg w8 hbox hb; have BK423 := AA hbox; have GW423 := GS hg HB; have GE423 := GS hg HB; replace HB := BS HB hb; have NB422_423 := AA (by rw [hg]; exact Nat.ne_of_lt (blk_lt (g := gb422) (o := .cells #[.int .u32 a2_0, .int .u32 a2_1, .int .i64 a2_2, .int .i64 a2_3] 36 (0, 0)) (BD BK422)) : gb422 ≠ gb423); have NB423_422 := AA (by rw [hg]; exact Nat.ne_of_gt (blk_lt (g := gb422) (o := .cells #[.int .u32 a2_0, .int .u32 a2_1, .int .i64 a2_2, .int .i64 a2_3] 36 (0, 0)) (BD BK422)) : gb423 ≠ gb422); replace BK422 := AA (blk_below (g := gb422) (o := .cells #[.int .u32 a2_0, .int .u32 a2_1, .int .i64 a2_2, .int .i64 a2_3] 36 (0, 0)) (BD BK422) hb); clear hb hbox hg) | ((with_reducible refine gkx 49 rfl ?_); refine gL 12 Try.func49 rfl (weighbridgeref09_Classify.calls k a0 t424 t425 t426 t427 t428 t429 t430 t431 t432 t433 t434 t435 t436 t437 t438 _ A4.out) ?_; rintro w9 hb; replace BK422 := AA (blk_below (g := gb422) (o := .cells #[.int .u32 a2_0, .int .u32 a2_1, .int .i64 a2_2, .int .i64 a2_3] 36 (0, 0)) (BD BK422) hb); replace BK423 := AA (blk_below (g := gb423) (o := .cells (rr14 0 0 0 0 0 0 0 0 0 0 0 0 0 0) 69 (0, 0)) (BD BK423) hb); replace HB := BS HB hb; (try clear hb)) | ((with_reducible refine gate_dst (N := 8) rfl ?_); refine bx 8 69 (rr14 0 0 0 0 0 0 0 0 0 0 0 0 0 0) ?_; intro gb439 hg w10 hbox hb; have BK439 := AA hbox; have GW439 := GS hg HB; have GE439 := GS hg HB; replace HB := BS HB hb; have NB422_439 := AA (by rw [hg]; exact Nat.ne_of_lt (blk_lt (g := gb422) (o := .cells #[.int .u32 a2_0, .int .u32 a2_1, .int .i64 a2_2, .int .i64 a2_3] 36 (0, 0)) (BD BK422)) : gb422 ≠ gb439); have NB439_422 := AA (by rw [hg]; exact Nat.ne_of_gt (blk_lt (g := gb422) (o := .cells #[.int .u32 a2_0, .int .u32 a2_1, .int .i64 a2_2, .int .i64 a2_3] 36 (0, 0)) (BD BK422)) : gb439 ≠ gb422); replace BK422 := AA (blk_below (g := gb422) (o := .cells #[.int .u32 a2_0, .int .u32 a2_1, .int .i64 a2_2, .int .i64 a2_3] 36 (0, 0)) (BD BK422) hb); have NB423_439 := AA (by rw [hg]; exact Nat.ne_of_lt (blk_lt (g := gb423) (o := .cells (rr14 0 0 0 0 0 0 0 0 0 0 0 0 0 0) 69 (0, 0)) (BD BK423)) : gb423 ≠ gb439); have NB439_423 := AA (by rw [hg]; exact Nat.ne_of_gt (blk_lt (g := gb423) (o := .cells (rr14 0 0 0 0 0 0 0 0 0 0 0 0 0 0) 69 (0, 0)) (BD BK423)) : gb439 ≠ gb423); replace BK423 := AA (blk_below (g := gb423) (o := .cells (rr14 0 0 0 0 0 0 0 0 0 0 0 0 0 0) 69 (0, 0)) (BD BK423) hb); clear hb hbox hg; have hnb11 := NB439_422.out; have hnc11 := NB422_439.out; have hnb12 := NB439_423.out; have hnc12 := NB423_439.out; have hz13 := blk14 BK439.out))
 (try simp only [Act.put, List.setIfInBounds_toArray, List.set_cons_zero, List.set_cons_succ])
 go_cut [42] (fun v42 wc => ∃ (kq : Nat) (x42_5 : Bool), v42 = .bool x42_5 ∧ Aside0 (weighbridgeref10_ready.j0 kq x42_5 t424 t425 t426 t427 t428 t429 t430 t431 t432 t433 t434 t435 t436 t437 = some (r1, r2, r3, r4, r5, r6, r7, r8, r9, r10, r11, r12, r13, r14, r15)) ∧ Aside0 (kq ≤ k) ∧ Aside0 (wc.heap[gb422]? = some (.cells #[.int .u32 a2_0, .int .u32 a2_1, .int .i64 a2_2, .int .i64 a2_3] 36 (0, 0))) ∧ Aside0 (wc.heap[gb423]? = some (.cells (rr14 0 0 0 0 0 0 0 0 0 0 0 0 0 0) 69 (0, 0))) ∧ Aside0 (wc.heap[gb439]? = some (.cells (rr14 t424 t425 t426 t427 t428 t429 t430 t431 t432 t433 t434 t435 t436 t437) 69 (0, 0))) ∧ Aside0 (Below w.heap.size w wc))
 case first =>
  have H := HC6.out
  clear HC6
  by_cases c14 : t424 = a1
  rotate_left
  ·rw [if_neg c14] at H
   have c14b0 := BF c14
   have c14b1 := NT c14
   (first | rw [c14b0] | (simp only [i64_w, i32_w]; rw [c14b0]) | skip)
   have H' := AA H
   clear H
   have hnb38 := NB439_422.out
   have hnc38 := NB422_439.out
   have hnb39 := NB439_423.out
   have hnc39 := NB423_439.out
   have hz40 := blk14 BK439.out
   go_wp2
   go_meet
   case rel => exact ⟨_, (true), QS, H', LR, ⟨BE BK422⟩, ⟨BE BK423⟩, ⟨BE BK439⟩, ⟨BW HB⟩⟩
  rw [if_pos c14] at H
  have c14b0 := BT c14
  have c14b1 := NF c14
  clear c14
  (first | rw [c14b0] | (simp only [i64_w, i32_w]; rw [c14b0]) | skip)
  by_cases c15 : a2_2 < 0
  ·rw [if_pos c15] at H
   have c15b0 := decide_eq_true c15
   clear c15
   have H' := AA H
   clear H
   have hnb16 := NB439_422.out
   have hnc16 := NB422_439.out
   have hnb17 := NB439_423.out
   have hnc17 := NB423_439.out
   have hz18 := blk14 BK439.out
   have hnb19 := NB422_423.out
   have hnc19 := NB423_422.out
   have hz20 := blk4 BK422.out
   go_wp2
   go_meet
   case rel => exact ⟨_, (true), QS, H', LR, ⟨BE BK422⟩, ⟨BE BK423⟩, ⟨BE BK439⟩, ⟨BW HB⟩⟩
  rw [if_neg c15] at H
  have c15b0 := decide_eq_false c15
  clear c15
  by_cases c21 : a2_2 > 65535
  ·rw [if_pos c21] at H
   have c21b0 : decide (65535 < a2_2) = true := decide_eq_true c21
   clear c21
   have H' := AA H
   clear H
   have hnb22 := NB439_422.out
   have hnc22 := NB422_439.out
   have hnb23 := NB439_423.out
   have hnc23 := NB423_439.out
   have hz24 := blk14 BK439.out
   have hnb25 := NB422_423.out
   have hnc25 := NB423_422.out
   have hz26 := blk4 BK422.out
   go_wp2
   go_meet
   case rel => exact ⟨_, (true), QS, H', LR, ⟨BE BK422⟩, ⟨BE BK423⟩, ⟨BE BK439⟩, ⟨BW HB⟩⟩
  rw [if_neg c21] at H
  have c21b0 : decide (65535 < a2_2) = false := decide_eq_false c21
  clear c21
  by_cases c27 : a2_3 < 0
  ·rw [if_pos c27] at H
   have c27b0 := decide_eq_true c27
   clear c27
   have H' := AA H
   clear H
   have hnb28 := NB439_422.out
   have hnc28 := NB422_439.out
   have hnb29 := NB439_423.out
   have hnc29 := NB423_439.out
   have hz30 := blk14 BK439.out
   have hnb31 := NB422_423.out
   have hnc31 := NB423_422.out
   have hz32 := blk4 BK422.out
   go_wp2
   go_meet
   case rel => exact ⟨_, (true), QS, H', LR, ⟨BE BK422⟩, ⟨BE BK423⟩, ⟨BE BK439⟩, ⟨BW HB⟩⟩
  rw [if_neg c27] at H
  have c27b0 := decide_eq_false c27
  clear c27
  have H' := AA H
  clear H
  have hnb33 := NB439_422.out
  have hnc33 := NB422_439.out
  have hnb34 := NB439_423.out
  have hnc34 := NB423_439.out
  have hz35 := blk14 BK439.out
  have hnb36 := NB422_423.out
  have hnc36 := NB423_422.out
  have hz37 := blk4 BK422.out
  go_wp2
  go_meet
  case rel => exact ⟨_, (decide (a2_3 > 65535)), QS, H', LR, ⟨BE BK422⟩, ⟨BE BK423⟩, ⟨BE BK439⟩, ⟨BW HB⟩⟩
 case rest =>
  clear HC6
  try clear c1; try clear c2; try clear p2; try clear c3; try clear c4; try clear c5; try clear c5b0; try clear c5b1; try clear c11; try clear c12; try clear c14; try clear c14b0; try clear c14b1; try clear c15; try clear c15b0; try clear c16; try clear c17; try clear c19; try clear c21; try clear c21b0; try clear c22; try clear c23; try clear c25; try clear c26; try clear c27; try clear c27b0; try clear c28; try clear c29; try clear c31; try clear c33; try clear c34; try clear c36; try clear c38; try clear c39; try clear hz13; try clear hz18; try clear hz20; try clear hz24; try clear hz26; try clear hz30; try clear hz32; try clear hz35; try clear hz37; try clear hz40
  obtain ⟨kq, x42_5, rfl, HA, HJ5, BK422, BK423, BK439, HB⟩ := hcut
  cases kq with
  | zero => exact absurd HA.out (by simp [weighbridgeref10_ready.j0])
  | succ kj5 =>
   have H := HA.out
   clear HA
   simp only [weighbridgeref10_ready.j0] at H
   by_cases c41 : x42_5 = true
   ·subst c41
    first | rw [if_pos rfl] at H | rw [if_pos trivial] at H
    simp only [Option.some.injEq, Prod.mk.injEq] at H
    obtain ⟨rfl, rfl, rfl, rfl, rfl, rfl, rfl, rfl, rfl, rfl, rfl, rfl, rfl, rfl, rfl⟩ := H
    have hnb42 := NB439_422.out
    have hnc42 := NB422_439.out
    have hnb43 := NB439_423.out
    have hnc43 := NB423_439.out
    have hz44 := blk14 BK439.out
    have hnb45 := NB423_422.out
    have hnc45 := NB422_423.out
    have hz46 := blk14 BK423.out
    go_wp2
    refine bodyPost_ret (results_ct rfl _ _ gb423 69 #[.int .i64 t424, .int .i64 t425, .int .i64 t426, .int .i64 t427, .int .u32 t428, .int .u32 t429, .int .i64 t430, .int .i64 t431, .int .i64 t432, .int .i64 t433, .int .u32 t434, .int .u32 t435, .int .i64 t436, .int .i64 t437] (0, 0) _ rfl (BE BK423) Try.underlying69 rfl (by kernel_rfl)) rfl ?_
    exact ⟨RT, BW HB⟩
   replace c41 := Bool.eq_false_iff.mpr c41
   subst c41
   replace H := IFN H
   by_cases c47 : t433 < 2
   ·rw [if_pos c47] at H
    have c47b0 := decide_eq_true c47
    clear c47
    simp only [Option.some.injEq, Prod.mk.injEq] at H
    obtain ⟨rfl, rfl, rfl, rfl, rfl, rfl, rfl, rfl, rfl, rfl, rfl, rfl, rfl, rfl, rfl⟩ := H
    have hnb48 := NB439_422.out
    have hnc48 := NB422_439.out
    have hnb49 := NB439_423.out
    have hnc49 := NB423_439.out
    have hz50 := blk14 BK439.out
    have hnb51 := NB423_422.out
    have hnc51 := NB422_423.out
    have hz52 := blk14 BK423.out
    go_wp2
    refine bodyPost_ret (results_ct rfl _ _ gb423 69 #[.int .i64 t424, .int .i64 t425, .int .i64 t426, .int .i64 t427, .int .u32 t428, .int .u32 t429, .int .i64 t430, .int .i64 t431, .int .i64 t432, .int .i64 t433, .int .u32 t434, .int .u32 t435, .int .i64 t436, .int .i64 t437] (0, 0) _ rfl (BE BK423) Try.underlying69 rfl (by kernel_rfl)) rfl ?_
    exact ⟨RT, BW HB⟩
   rw [if_neg c47] at H
   have c47b0 := decide_eq_false c47
   clear c47
   simp only [Option.some.injEq, Prod.mk.injEq] at H
   obtain ⟨rfl, rfl, rfl, rfl, rfl, rfl, rfl, rfl, rfl, rfl, rfl, rfl, rfl, rfl, rfl⟩ := H
   have hnb53 := NB439_422.out
   have hnc53 := NB422_439.out
   have hnb54 := NB439_423.out
   have hnc54 := NB423_439.out
   have hz55 := blk14 BK439.out
   have hnb56 := NB423_422.out
   have hnc56 := NB422_423.out
   have hz57 := blk14 BK423.out
   go_wp2
   refine bodyPost_ret (results_ct rfl _ _ gb423 69 #[.int .i64 t424, .int .i64 t425, .int .i64 t426, .int .i64 t427, .int .u32 t428, .int .u32 t429, .int .i64 t430, .int .i64 t431, .int .i64 t432, .int .i64 t433, .int .u32 t434, .int .u32 t435, .int .i64 t436, .int .i64 t437] (0, 0) _ rfl (BE BK423) Try.underlying69 rfl (by kernel_rfl)) rfl ?_
   exact ⟨RT, BW HB⟩

/-! ### weighbridgeref10_with: function 28 -/
def weighbridgeref10_with.f (a0 : ByteArray) (a1 : Int) (a2 : Int) (a3 : Int) : Option (ByteArray) := (weighbridgeref01_Set.f a0 a1 a2 a3).bind fun bt440 => (some bt440.1)
set_option maxHeartbeats 8000000 in
set_option maxRecDepth 100000 in
theorem weighbridgeref10_with.calls (a0 : ByteArray) (a1 : Int) (a2 : Int) (a3 : Int) (r : ByteArray) (w : World) (h : weighbridgeref10_with.f a0 a1 a2 a3 = some r) :
  Calls Try.prog 28 #[.string a0, .int .i64 a1, .int .i64 a2, .int .i64 a3] w fun e w' => e = .returned (.string r) ∧ Below w.heap.size w w' := by
 have HB := AA (Below.refl w.heap.size w)
 have H : ((weighbridgeref01_Set.f a0 a1 a2 a3).bind fun bt440 => (some bt440.1)) = some r := h
 clear h
 replace H := OB H
 obtain ⟨⟨t440, t441⟩, A5, H⟩ := H
 (try set_option simprocs false in dsimp only at H)
 obtain rfl := Option.some.inj H
 go_enter Try.func28, Try.ntmps28
 go_wp2_with (first | ((with_reducible refine gkx 50 rfl ?_); refine gL 16 Try.func50 rfl (weighbridgeref01_Set.calls a0 a1 a2 a3 t440 t441 _ A5.out) ?_; rintro w6 hb; (try clear A5); replace HB := BS HB hb; (try clear hb)))
 go_ret
 exact ⟨RT, BW HB⟩

/-! ### weighbridgeref10_num: function 29 -/
def weighbridgeref10_num.f (a0 : ByteArray) (a1 : Int) (a2 : Int) : Option (Int) := (weighbridgeref01_Get.f a0 a1 a2).bind fun bt442 => (some bt442.1)
set_option maxHeartbeats 8000000 in
set_option maxRecDepth 100000 in
theorem weighbridgeref10_num.calls (a0 : ByteArray) (a1 : Int) (a2 : Int) (r : Int) (w : World) (h : weighbridgeref10_num.f a0 a1 a2 = some r) :
  Calls Try.prog 29 #[.string a0, .int .i64 a1, .int .i64 a2] w fun e w' => e = .returned (.int .i64 r) ∧ Drawn0 w w' := by
 have H : ((weighbridgeref01_Get.f a0 a1 a2).bind fun bt442 => (some bt442.1)) = some r := h
 clear h
 replace H := OB H
 obtain ⟨⟨t442, t443⟩, A4, H⟩ := H
 (try set_option simprocs false in dsimp only at H)
 obtain rfl := Option.some.inj H
 go_enter Try.func29, Try.ntmps29
 go_wp2_with (first | ((with_reducible refine gkx 51 rfl ?_); refine gL 13 Try.func51 rfl (weighbridgeref01_Get.calls a0 a1 a2 t442 t443 _ A4.out) ?_; rintro w' ⟨nd, rfl⟩))
 go_ret
 exact ⟨RS, DW⟩

/-! ### weighbridgeref10_outer: function 27 -/
def weighbridgeref10_outer.f (a0 : ByteArray) (a1 : Int) (a2 : Int) (a3 : Int) : Option (ByteArray) := (weighbridgeref10_num.f a0 8 1).bind fun t444 => ((weighbridgeref10_with.f a0 8 1 (wrap64 (t444 - 1))).bind fun t445 => ((weighbridgeref10_with.f t445 12 4 (wrap64 (a2))).bind fun t446 => ((weighbridgeref10_with.f t446 16 4 (wrap64 (a3))).bind fun t447 => ((weighbridgeref10_with.f t447 10 2 0).bind fun t448 => (if 0 ≤ a1 then (if a1 ≤ (t448.size : Int) then ((weighbridgeref03_Check.f (t448.extract 0 (a1 : Int).toNat)).bind fun t449 => ((weighbridgeref10_with.f t448 10 2 (wrap64 (t449))).bind fun t450 => (some t450))) else (none)) else (none))))))
set_option maxHeartbeats 8000000 in
set_option maxRecDepth 100000 in
theorem weighbridgeref10_outer.calls (a0 : ByteArray) (a1 : Int) (a2 : Int) (a3 : Int) (r : ByteArray) (w : World) (h : weighbridgeref10_outer.f a0 a1 a2 a3 = some r) :
  Calls Try.prog 27 #[.string a0, .int .i64 a1, .int .u32 a2, .int .u32 a3] w fun e w' => e = .returned (.string r) ∧ Below w.heap.size w w' := by
 have HB := AA (Below.refl w.heap.size w)
 have H := h
 unfold weighbridgeref10_outer.f at H
 clear h
 replace H := OB H
 obtain ⟨t444, A5, H⟩ := H
 (try set_option simprocs false in dsimp only at H)
 replace H := OB H
 obtain ⟨t445, A6, H⟩ := H
 (try set_option simprocs false in dsimp only at H)
 replace H := OB H
 obtain ⟨t446, A7, H⟩ := H
 (try set_option simprocs false in dsimp only at H)
 replace H := OB H
 obtain ⟨t447, A8, H⟩ := H
 (try set_option simprocs false in dsimp only at H)
 replace H := OB H
 obtain ⟨t448, A9, H⟩ := H
 (try set_option simprocs false in dsimp only at H)
 replace H := IU H
 obtain ⟨c10b0, c10b1, H⟩ := H
 replace H := IU H
 obtain ⟨c11b0, c11b1, H⟩ := H
 replace H := OB H
 obtain ⟨t449, A12, H⟩ := H
 (try set_option simprocs false in dsimp only at H)
 replace H := OB H
 obtain ⟨t450, A13, H⟩ := H
 (try set_option simprocs false in dsimp only at H)
 obtain rfl := Option.some.inj H
 go_enter Try.func27, Try.ntmps27
 go_wp2_with (first | ((with_reducible refine gkx 29 rfl ?_); refine gL 11 Try.func29 rfl (weighbridgeref10_num.calls a0 8 1 t444 _ A5.out) ?_; rintro w' ⟨nd, rfl⟩) | ((with_reducible refine gkx 28 rfl ?_); refine gL 13 Try.func28 rfl (weighbridgeref10_with.calls a0 8 1 (wrap64 (t444 - 1)) t445 _ A6.out) ?_; rintro w14 hb; (try clear A6); replace HB := BS HB hb; (try clear hb)) | ((with_reducible refine gkx 28 rfl ?_); refine gL 17 Try.func28 rfl (weighbridgeref10_with.calls t445 12 4 (wrap64 (a2)) t446 _ A7.out) ?_; rintro w15 hb; (try clear A7); replace HB := BS HB hb; (try clear hb)) | ((with_reducible refine gkx 28 rfl ?_); refine gL 20 Try.func28 rfl (weighbridgeref10_with.calls t446 16 4 (wrap64 (a3)) t447 _ A8.out) ?_; rintro w16 hb; (try clear A8); replace HB := BS HB hb; (try clear hb)) | ((with_reducible refine gkx 28 rfl ?_); refine gL 22 Try.func28 rfl (weighbridgeref10_with.calls t447 10 2 0 t448 _ A9.out) ?_; rintro w17 hb; (try clear A9); replace HB := BS HB hb; (try clear hb)) | ((with_reducible refine gkx 42 rfl ?_); refine gL 27 Try.func42 rfl (weighbridgeref03_Check.calls (t448.extract 0 (a1 : Int).toNat) t449 _ A12.out) ?_; rintro w18 hb; (try clear A12); replace HB := BS HB hb; (try clear hb)) | ((with_reducible refine gkx 28 rfl ?_); refine gL 29 Try.func28 rfl (weighbridgeref10_with.calls t448 10 2 (wrap64 (t449)) t450 _ A13.out) ?_; rintro w19 hb; (try clear A13); replace HB := BS HB hb; (try clear hb)))
 go_ret
 exact ⟨RT, BW HB⟩

end Go.Proofs.Ytfnjohklmpiboaa.Pr
