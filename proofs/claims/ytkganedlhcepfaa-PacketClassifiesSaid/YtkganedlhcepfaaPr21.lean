-- Written by a program of the session (wip/tools) out of the translation, over the kit's print; with pieces of the session's own.
import Derived.Test.YtkganedlhcepfaaPr0
import Derived.Test.YtkganedlhcepfaaPr2
import Derived.Test.YtkganedlhcepfaaPr3
import Derived.Test.YtkganedlhcepfaaPr6
import Derived.Test.YtkganedlhcepfaaPr7
import Derived.Test.YtkganedlhcepfaaPr8
import Derived.Test.YtkganedlhcepfaaPr20
namespace Go.Proofs.Ytkganedlhcepfaa.Pr
open Go.RowKit Go.Proofs.YtkganedlhcepfaaW.PrintWords Go.Proofs.YtkganedlhcepfaaW.PrintLast Go.Proofs.YtkganedlhcepfaaW.PrintMore
attribute [local go_sem] max2_int min2_int max_two min_two max_three min_three max_four min_four   -- for this text's walks alone
set_option linter.unusedVariables false
set_option linter.unusedSimpArgs false
open Go.Proofs.Ytkganedlhcepfaa.Sp
/-! ### weighbridgeref09_Classify: function 13 -/
def weighbridgeref09_Classify.j0 : Nat → ByteArray → ByteArray → Bool → Int → Int → Int → Int → Int → Int → Int → Int → ByteArray → Option (Int × Int × Int × Int × Int × Int × Int × Int × Int × Int × Int × Int × Int × Int × Int)
 | 0, _, _, _, _, _, _, _, _, _, _, _, _ => none
 | k + 1, x0, x5, x37, x406000, x406001, x406002, x406003, x406004, x406005, x406006, x406007, x406008 => if x37 = true then (some (0, 0, 0, 0, 0, 0, 0, 0, 0, 0, 0, 0, 0, 0, 8)) else ((weighbridgeref04_Sizes.f x0).bind fun bt406 => (if x406005 = 6 then ((weighbridgeref05_Parse.f x5).bind fun bt410 => (if bt410.2.2.2.2.2.2.2.2.2 = 0 then ((weighbridgeref08_Verify.f x406005 x406006 x406007 x5).bind fun t421 => (if t421 = 0 then (some (1, bt406.1, bt406.2.1, x406005, x406006, x406007, bt410.1, bt410.2.1, bt410.2.2.2.2.1, x406004, x406006, x406007, 0, 0, 0)) else (some (0, 0, 0, 0, 0, 0, 0, 0, 0, 0, 0, 0, 0, 0, t421)))) else (some (0, 0, 0, 0, 0, 0, 0, 0, 0, 0, 0, 0, 0, 0, bt410.2.2.2.2.2.2.2.2.2)))) else (if x406005 = 17 then ((weighbridgeref06_Parse.f x5).bind fun bt422 => (if bt422.2.2.2 = 0 then ((weighbridgeref08_Verify.f x406005 x406006 x406007 x5).bind fun t426 => (if t426 = 0 then (some (1, bt406.1, bt406.2.1, x406005, x406006, x406007, bt422.1, bt422.2.1, 0, x406004, x406006, x406007, 0, 0, 0)) else (some (0, 0, 0, 0, 0, 0, 0, 0, 0, 0, 0, 0, 0, 0, t426)))) else (some (0, 0, 0, 0, 0, 0, 0, 0, 0, 0, 0, 0, 0, 0, bt422.2.2.2)))) else (if x406005 = 1 then ((weighbridgeref09_about.f k 1 bt406.1 bt406.2.1 x406005 x406006 x406007 0 0 0 x406004 x406006 x406007 0 0 x5).bind fun bt427 => (some (bt427.1, bt427.2.1, bt427.2.2.1, bt427.2.2.2.1, bt427.2.2.2.2.1, bt427.2.2.2.2.2.1, bt427.2.2.2.2.2.2.1, bt427.2.2.2.2.2.2.2.1, bt427.2.2.2.2.2.2.2.2.1, bt427.2.2.2.2.2.2.2.2.2.1, bt427.2.2.2.2.2.2.2.2.2.2.1, bt427.2.2.2.2.2.2.2.2.2.2.2.1, bt427.2.2.2.2.2.2.2.2.2.2.2.2.1, bt427.2.2.2.2.2.2.2.2.2.2.2.2.2.1, bt427.2.2.2.2.2.2.2.2.2.2.2.2.2.2))) else (some (0, 0, 0, 0, 0, 0, 0, 0, 0, 0, 0, 0, 0, 0, 9))))))
def weighbridgeref09_Classify.f (k : Nat) (a0 : ByteArray) : Option (Int × Int × Int × Int × Int × Int × Int × Int × Int × Int × Int × Int × Int × Int × Int) := (weighbridgeref04_Parse.f a0).bind fun bt394 => (if bt394.2.2.2.2.2.2.2.2.2.2 = 0 then (if (Int.tmod bt394.2.2.1 2) = 1 then (weighbridgeref09_Classify.j0 k a0 bt394.2.2.2.2.2.2.2.2.2.1 true bt394.1 bt394.2.1 bt394.2.2.1 bt394.2.2.2.1 bt394.2.2.2.2.1 bt394.2.2.2.2.2.1 bt394.2.2.2.2.2.2.1 bt394.2.2.2.2.2.2.2.1 bt394.2.2.2.2.2.2.2.2.1) else (weighbridgeref09_Classify.j0 k a0 bt394.2.2.2.2.2.2.2.2.2.1 (bt394.2.2.2.1 != 0) bt394.1 bt394.2.1 bt394.2.2.1 bt394.2.2.2.1 bt394.2.2.2.2.1 bt394.2.2.2.2.2.1 bt394.2.2.2.2.2.2.1 bt394.2.2.2.2.2.2.2.1 bt394.2.2.2.2.2.2.2.2.1)) else (some (0, 0, 0, 0, 0, 0, 0, 0, 0, 0, 0, 0, 0, 0, bt394.2.2.2.2.2.2.2.2.2.2)))
theorem weighbridgeref09_Classify.mono_l : ∀ k, (∀ y0 y1 y2 y3 y4 y5 y6 y7 y8 y9 y10 y11, LeO (weighbridgeref09_Classify.j0 k y0 y1 y2 y3 y4 y5 y6 y7 y8 y9 y10 y11) (weighbridgeref09_Classify.j0 (k + 1) y0 y1 y2 y3 y4 y5 y6 y7 y8 y9 y10 y11))
 | 0 => fun _ _ _ _ _ _ _ _ _ _ _ _ r h => by simp [weighbridgeref09_Classify.j0] at h
 | k + 1 => by
  have ih0 := weighbridgeref09_Classify.mono_l k
  ·intro y0 y1 y2 y3 y4 y5 y6 y7 y8 y9 y10 y11
   unfold weighbridgeref09_Classify.j0
   repeat' first
   | (with_reducible exact ih0 _ _ _ _ _ _ _ _ _ _ _ _)
   | (with_reducible exact weighbridgeref09_about.mono _ _ _ _ _ _ _ _ _ _ _ _ _ _ _ _)
   | (with_reducible exact LeO.refl _)
   | (with_reducible exact LeO.none _)
   | (with_reducible refine LeO.ite ?_ ?_)
   | (with_reducible refine LeO.bind ?_ (fun _ => ?_))
   | exact ih0 _ _ _ _ _ _ _ _ _ _ _ _
   | exact weighbridgeref09_about.mono _ _ _ _ _ _ _ _ _ _ _ _ _ _ _ _
   | exact LeO.none _
   | refine LeO.ite ?_ ?_
   | refine LeO.bind ?_ (fun _ => ?_)
theorem weighbridgeref09_Classify.mono : ∀ a0 k, LeO (weighbridgeref09_Classify.f k a0) (weighbridgeref09_Classify.f (k + 1) a0) := by
 intro a0 k
 have ih0 := weighbridgeref09_Classify.mono_l k
 unfold weighbridgeref09_Classify.f
 repeat' first
   | (with_reducible exact ih0 _ _ _ _ _ _ _ _ _ _ _ _)
   | (with_reducible exact weighbridgeref09_about.mono _ _ _ _ _ _ _ _ _ _ _ _ _ _ _ _)
   | (with_reducible exact LeO.refl _)
   | (with_reducible exact LeO.none _)
   | (with_reducible refine LeO.ite ?_ ?_)
   | (with_reducible refine LeO.bind ?_ (fun _ => ?_))
   | exact ih0 _ _ _ _ _ _ _ _ _ _ _ _
   | exact weighbridgeref09_about.mono _ _ _ _ _ _ _ _ _ _ _ _ _ _ _ _
   | exact LeO.none _
   | refine LeO.ite ?_ ?_
   | refine LeO.bind ?_ (fun _ => ?_)
set_option maxHeartbeats 8000000 in
set_option maxRecDepth 100000 in
theorem weighbridgeref09_Classify.calls (k : Nat) (a0 : ByteArray) (r1 : Int) (r2 : Int) (r3 : Int) (r4 : Int) (r5 : Int) (r6 : Int) (r7 : Int) (r8 : Int) (r9 : Int) (r10 : Int) (r11 : Int) (r12 : Int) (r13 : Int) (r14 : Int) (r15 : Int) (w : World) (h : weighbridgeref09_Classify.f k a0 = some (r1, r2, r3, r4, r5, r6, r7, r8, r9, r10, r11, r12, r13, r14, r15)) :
  Calls Try.prog 13 #[.string a0] w fun e w' => e = .returned (.tuple #[.agg #[.int .i64 r1, .int .i64 r2, .int .i64 r3, .int .i64 r4, .int .u32 r5, .int .u32 r6, .int .i64 r7, .int .i64 r8, .int .i64 r9, .int .i64 r10, .int .u32 r11, .int .u32 r12, .int .i64 r13, .int .i64 r14], .int .i64 r15]) ∧ Below w.heap.size w w' := by
 have hu36 := Try.underlying36
 have hu45 := Try.underlying45
 have hu30 := Try.underlying30
 have hu70 := Try.underlying70
 have HB := AA (Below.refl w.heap.size w)
 have H : ((weighbridgeref04_Parse.f a0).bind fun bt394 => (if bt394.2.2.2.2.2.2.2.2.2.2 = 0 then (if (Int.tmod bt394.2.2.1 2) = 1 then (weighbridgeref09_Classify.j0 k a0 bt394.2.2.2.2.2.2.2.2.2.1 true bt394.1 bt394.2.1 bt394.2.2.1 bt394.2.2.2.1 bt394.2.2.2.2.1 bt394.2.2.2.2.2.1 bt394.2.2.2.2.2.2.1 bt394.2.2.2.2.2.2.2.1 bt394.2.2.2.2.2.2.2.2.1) else (weighbridgeref09_Classify.j0 k a0 bt394.2.2.2.2.2.2.2.2.2.1 (bt394.2.2.2.1 != 0) bt394.1 bt394.2.1 bt394.2.2.1 bt394.2.2.2.1 bt394.2.2.2.2.1 bt394.2.2.2.2.2.1 bt394.2.2.2.2.2.2.1 bt394.2.2.2.2.2.2.2.1 bt394.2.2.2.2.2.2.2.2.1)) else (some (0, 0, 0, 0, 0, 0, 0, 0, 0, 0, 0, 0, 0, 0, bt394.2.2.2.2.2.2.2.2.2.2)))) = some (r1, r2, r3, r4, r5, r6, r7, r8, r9, r10, r11, r12, r13, r14, r15) := h
 clear h
 replace H := OB H
 obtain ⟨⟨t394, t395, t396, t397, t398, t399, t400, t401, t402, t403, t404⟩, A2, H⟩ := H
 (try set_option simprocs false in dsimp only at H)
 by_cases c3 : t404 = 0
 rotate_left
 ·rw [if_neg c3] at H
  have c3b0 := BF c3
  have c3b1 := NT c3
  simp only [Option.some.injEq, Prod.mk.injEq] at H
  obtain ⟨rfl, rfl, rfl, rfl, rfl, rfl, rfl, rfl, rfl, rfl, rfl, rfl, rfl, rfl, rfl⟩ := H
  go_enter Try.func13, Try.ntmps13
  go_wp2_with (first | ((with_reducible refine gate_dst (N := 2) rfl ?_); refine bx 2 36 (rr14 0 0 0 0 0 0 0 0 0 0 0 0 0 0) ?_; intro gb393 hg w124 hbox hb; have BK393 := AA hbox; have GW393 := GS hg HB; have GE393 := GS hg HB; replace HB := BS HB hb; clear hb hbox hg) | ((with_reducible refine gkx 27 rfl ?_); refine gL 21 Try.func27 rfl (weighbridgeref04_Parse.calls a0 t394 t395 t396 t397 t398 t399 t400 t401 t402 t403 t404 _ A2.out) ?_; rintro w125 hb; (try clear A2); replace BK393 := AA (blk_below (g := gb393) (o := .cells (rr14 0 0 0 0 0 0 0 0 0 0 0 0 0 0) 36 (0, 0)) (BD BK393) hb); replace HB := BS HB hb; (try clear hb)) | ((with_reducible refine gate_dst (N := 4) rfl ?_); refine bx 4 45 (rr9 0 0 0 0 0 0 0 0 (⟨#[]⟩ : ByteArray)) ?_; intro gb405 hg w126 hbox hb; have BK405 := AA hbox; have GW405 := GS hg HB; have GE405 := GS hg HB; replace HB := BS HB hb; have NB393_405 := AA (by rw [hg]; exact Nat.ne_of_lt (blk_lt (g := gb393) (o := .cells (rr14 0 0 0 0 0 0 0 0 0 0 0 0 0 0) 36 (0, 0)) (BD BK393)) : gb393 ≠ gb405); have NB405_393 := AA (by rw [hg]; exact Nat.ne_of_gt (blk_lt (g := gb393) (o := .cells (rr14 0 0 0 0 0 0 0 0 0 0 0 0 0 0) 36 (0, 0)) (BD BK393)) : gb405 ≠ gb393); replace BK393 := AA (blk_below (g := gb393) (o := .cells (rr14 0 0 0 0 0 0 0 0 0 0 0 0 0 0) 36 (0, 0)) (BD BK393) hb); clear hb hbox hg; have hnb127 := NB405_393.out; have hnc127 := NB393_405.out; have hz128 := blk9 BK405.out; have hz129 := blk14 BK393.out))
  refine bodyPost_ret (results_ct rfl _ _ gb393 36 #[.int .i64 0, .int .i64 0, .int .i64 0, .int .i64 0, .int .u32 0, .int .u32 0, .int .i64 0, .int .i64 0, .int .i64 0, .int .i64 0, .int .u32 0, .int .u32 0, .int .i64 0, .int .i64 0] (0, 0) _ rfl (BE BK393) Try.underlying36 rfl (by kernel_rfl)) rfl ?_
  exact ⟨RT, BW HB⟩
 rw [if_pos c3] at H
 have c3b0 := BT c3
 have c3b1 := NF c3
 clear c3
 have HC4 := AA H
 clear H
 go_enter Try.func13, Try.ntmps13
 go_upto_region 4 with (first | ((with_reducible refine gate_dst (N := 2) rfl ?_); refine bx 2 36 (rr14 0 0 0 0 0 0 0 0 0 0 0 0 0 0) ?_; intro gb393 hg w5 hbox hb; have BK393 := AA hbox; have GW393 := GS hg HB; have GE393 := GS hg HB; replace HB := BS HB hb; clear hb hbox hg) | ((with_reducible refine gkx 27 rfl ?_); refine gL 21 Try.func27 rfl (weighbridgeref04_Parse.calls a0 t394 t395 t396 t397 t398 t399 t400 t401 t402 t403 t404 _ A2.out) ?_; rintro w6 hb; replace BK393 := AA (blk_below (g := gb393) (o := .cells (rr14 0 0 0 0 0 0 0 0 0 0 0 0 0 0) 36 (0, 0)) (BD BK393) hb); replace HB := BS HB hb; (try clear hb)) | ((with_reducible refine gate_dst (N := 4) rfl ?_); refine bx 4 45 (rr9 0 0 0 0 0 0 0 0 (⟨#[]⟩ : ByteArray)) ?_; intro gb405 hg w7 hbox hb; have BK405 := AA hbox; have GW405 := GS hg HB; have GE405 := GS hg HB; replace HB := BS HB hb; have NB393_405 := AA (by rw [hg]; exact Nat.ne_of_lt (blk_lt (g := gb393) (o := .cells (rr14 0 0 0 0 0 0 0 0 0 0 0 0 0 0) 36 (0, 0)) (BD BK393)) : gb393 ≠ gb405); have NB405_393 := AA (by rw [hg]; exact Nat.ne_of_gt (blk_lt (g := gb393) (o := .cells (rr14 0 0 0 0 0 0 0 0 0 0 0 0 0 0) 36 (0, 0)) (BD BK393)) : gb405 ≠ gb393); replace BK393 := AA (blk_below (g := gb393) (o := .cells (rr14 0 0 0 0 0 0 0 0 0 0 0 0 0 0) 36 (0, 0)) (BD BK393) hb); clear hb hbox hg; have hnb8 := NB405_393.out; have hnc8 := NB393_405.out; have hz9 := blk9 BK405.out))
 (try simp only [Act.put, List.setIfInBounds_toArray, List.set_cons_zero, List.set_cons_succ])
 go_cut [37] (fun v37 wc => ∃ (kq : Nat) (x37_3 : Bool), v37 = .bool x37_3 ∧ Aside0 (weighbridgeref09_Classify.j0 kq a0 t403 x37_3 t394 t395 t396 t397 t398 t399 t400 t401 t402 = some (r1, r2, r3, r4, r5, r6, r7, r8, r9, r10, r11, r12, r13, r14, r15)) ∧ Aside0 (kq ≤ k) ∧ Aside0 (wc.heap[gb393]? = some (.cells (rr14 0 0 0 0 0 0 0 0 0 0 0 0 0 0) 36 (0, 0))) ∧ Aside0 (wc.heap[gb405]? = some (.cells (rr9 t394 t395 t396 t397 t398 t399 t400 t401 t402) 45 (0, 0))) ∧ Aside0 (Below w.heap.size w wc))
 case first =>
  have H := HC4.out
  clear HC4
  by_cases c10 : (Int.tmod t396 2) = 1
  ·rw [if_pos c10] at H
   have c10b0 := BT c10
   have c10b1 := NF c10
   clear c10
   (first | rw [c10b0] | (simp only [i64_w, i32_w]; rw [c10b0]) | skip)
   have H' := AA H
   clear H
   have hnb11 := NB405_393.out
   have hnc11 := NB393_405.out
   have hz12 := blk9 BK405.out
   go_wp2
   go_meet
   case rel => exact ⟨_, (true), (by first | rfl | (simp; done) | (congr 2; simp only [ByteArray.size_extract, ByteArray.size_append]; have : (⟨#[]⟩ : ByteArray).size = 0 := rfl; (try unfold wrap64); omega) | (simp only [ByteArray.size_extract, ByteArray.size_append, Nat.sub_zero]; done) | (congr 1; simp only [ByteArray.size_extract, ByteArray.size_append, Nat.sub_zero]; have : (⟨#[]⟩ : ByteArray).size = 0 := rfl; omega) | (simp [*]; done)), H', LR, ⟨BE BK393⟩, ⟨BE BK405⟩, ⟨BW HB⟩⟩
  rw [if_neg c10] at H
  have c10b0 := BF c10
  have c10b1 := NT c10
  (first | rw [c10b0] | (simp only [i64_w, i32_w]; rw [c10b0]) | skip)
  have H' := AA H
  clear H
  have hnb13 := NB405_393.out
  have hnc13 := NB393_405.out
  have hz14 := blk9 BK405.out
  go_wp2
  go_meet
  case rel => exact ⟨_, ((t397 != 0)), (by first | rfl | (simp; done) | (congr 2; simp only [ByteArray.size_extract, ByteArray.size_append]; have : (⟨#[]⟩ : ByteArray).size = 0 := rfl; (try unfold wrap64); omega) | (simp only [ByteArray.size_extract, ByteArray.size_append, Nat.sub_zero]; done) | (congr 1; simp only [ByteArray.size_extract, ByteArray.size_append, Nat.sub_zero]; have : (⟨#[]⟩ : ByteArray).size = 0 := rfl; omega) | (simp [*]; done)), H', LR, ⟨BE BK393⟩, ⟨BE BK405⟩, ⟨BW HB⟩⟩
 case rest =>
  clear HC4
  try clear c1; try clear c2; try clear p2; try clear c3; try clear c3b0; try clear c3b1; try clear c8; try clear c10; try clear c10b0; try clear c10b1; try clear c11; try clear c13; try clear hz12; try clear hz14; try clear hz9
  obtain ⟨kq, x37_3, rfl, HA, HJ3, BK393, BK405, HB⟩ := hcut
  cases kq with
  | zero => exact absurd HA.out (by simp [weighbridgeref09_Classify.j0])
  | succ kj3 =>
   have H := HA.out
   clear HA
   simp only [weighbridgeref09_Classify.j0] at H
   by_cases c15 : x37_3 = true
   ·subst c15
    first | rw [if_pos rfl] at H | rw [if_pos trivial] at H
    simp only [Option.some.injEq, Prod.mk.injEq] at H
    obtain ⟨rfl, rfl, rfl, rfl, rfl, rfl, rfl, rfl, rfl, rfl, rfl, rfl, rfl, rfl, rfl⟩ := H
    have hnb16 := NB393_405.out
    have hnc16 := NB405_393.out
    have hz17 := blk14 BK393.out
    go_wp2
    refine bodyPost_ret (results_ct rfl _ _ gb393 36 #[.int .i64 0, .int .i64 0, .int .i64 0, .int .i64 0, .int .u32 0, .int .u32 0, .int .i64 0, .int .i64 0, .int .i64 0, .int .i64 0, .int .u32 0, .int .u32 0, .int .i64 0, .int .i64 0] (0, 0) _ rfl (BE BK393) Try.underlying36 rfl (by kernel_rfl)) rfl ?_
    exact ⟨RT, BW HB⟩
   replace c15 := Bool.eq_false_iff.mpr c15
   subst c15
   replace H := IFN H
   replace H := OB H
   obtain ⟨⟨t406, t407, t408⟩, A18, H⟩ := H
   (try set_option simprocs false in dsimp only at H)
   go_upto_region 10 with (first | ((with_reducible refine gkx 28 rfl ?_); refine gL 41 Try.func28 rfl (weighbridgeref04_Sizes.calls a0 t406 t407 t408 _ A18.out) ?_; rintro w' ⟨nd, rfl⟩; (try (rw [drewN_self wc]; generalize hq_ : World.drewN wc _ = wc; have n0_ : Aside0 (wc.heap[gb393]? = some (.cells (rr14 0 0 0 0 0 0 0 0 0 0 0 0 0 0) 36 (0, 0))) := ⟨by rw [← hq_]; exact (BD BK393)⟩; have n1_ : Aside0 (wc.heap[gb405]? = some (.cells (rr9 t394 t395 t396 t397 t398 t399 t400 t401 t402) 45 (0, 0))) := ⟨by rw [← hq_]; exact (BD BK405)⟩; have n2_ : Aside0 (Below w.heap.size w wc) := ⟨by rw [← hq_]; exact (BW HB)⟩; clear BK393 BK405 HB hq_; have BK393 := n0_; have BK405 := n1_; have HB := n2_; clear n0_ n1_ n2_)); have hnb24 := NB405_393.out; have hnc24 := NB393_405.out; have hz25 := blk9 BK405.out) | ((with_reducible refine gate_dst (N := 10) rfl ?_); refine bx 10 36 (rr14 0 0 0 0 0 0 0 0 0 0 0 0 0 0) ?_; intro gb409 hg w26 hbox hb; have BK409 := AA hbox; have GW409 := GS hg HB; have GE409 := GS hg HB; replace HB := BS HB hb; have NB393_409 := AA (by rw [hg]; exact Nat.ne_of_lt (blk_lt (g := gb393) (o := .cells (rr14 0 0 0 0 0 0 0 0 0 0 0 0 0 0) 36 (0, 0)) (BD BK393)) : gb393 ≠ gb409); have NB409_393 := AA (by rw [hg]; exact Nat.ne_of_gt (blk_lt (g := gb393) (o := .cells (rr14 0 0 0 0 0 0 0 0 0 0 0 0 0 0) 36 (0, 0)) (BD BK393)) : gb409 ≠ gb393); replace BK393 := AA (blk_below (g := gb393) (o := .cells (rr14 0 0 0 0 0 0 0 0 0 0 0 0 0 0) 36 (0, 0)) (BD BK393) hb); have NB405_409 := AA (by rw [hg]; exact Nat.ne_of_lt (blk_lt (g := gb405) (o := .cells (rr9 t394 t395 t396 t397 t398 t399 t400 t401 t402) 45 (0, 0)) (BD BK405)) : gb405 ≠ gb409); have NB409_405 := AA (by rw [hg]; exact Nat.ne_of_gt (blk_lt (g := gb405) (o := .cells (rr9 t394 t395 t396 t397 t398 t399 t400 t401 t402) 45 (0, 0)) (BD BK405)) : gb409 ≠ gb405); replace BK405 := AA (blk_below (g := gb405) (o := .cells (rr9 t394 t395 t396 t397 t398 t399 t400 t401 t402) 45 (0, 0)) (BD BK405) hb); clear hb hbox hg; have hnb27 := NB409_393.out; have hnc27 := NB393_409.out; have hnb28 := NB409_405.out; have hnc28 := NB405_409.out; have hz29 := blk14 BK409.out; have hz30 := blk9 BK405.out))
   by_cases c19 : t399 = 6
   ·rw [if_pos c19] at H
    have c19b0 := BT c19
    have c19b1 := NF c19
    clear c19
    replace H := OB H
    obtain ⟨⟨t410, t411, t412, t413, t414, t415, t416, t417, t418, t419⟩, A20, H⟩ := H
    (try set_option simprocs false in dsimp only at H)
    go_upto_if 73 with (first | ((with_reducible refine gkx 29 rfl ?_); refine gL 68 Try.func29 rfl (weighbridgeref05_Parse.calls t403 t410 t411 t412 t413 t414 t415 t416 t417 t418 t419 _ A20.out) ?_; rintro w31 hb; (try clear A20); replace BK393 := AA (blk_below (g := gb393) (o := .cells (rr14 0 0 0 0 0 0 0 0 0 0 0 0 0 0) 36 (0, 0)) (BE BK393) hb); replace BK405 := AA (blk_below (g := gb405) (o := .cells (rr9 t394 t395 t396 t397 t398 t399 t400 t401 t402) 45 (0, 0)) (BE BK405) hb); replace BK409 := AA (blk_below (g := gb409) (o := .cells (rr14 1 t406 t407 t399 t400 t401 0 0 0 t398 t400 t401 0 0) 36 (0, 0)) (BE BK409) hb); replace HB := BS HB hb; (try clear hb)) | ((with_reducible refine gate_dst (N := 11) rfl ?_); refine bx 11 70 (rr8 0 0 0 0 0 0 0 (⟨#[]⟩ : ByteArray)) ?_; intro gb420 hg w32 hbox hb; have BK420 := AA hbox; have GW420 := GS hg HB; have GE420 := GS hg HB; replace HB := BS HB hb; have NB393_420 := AA (by rw [hg]; exact Nat.ne_of_lt (blk_lt (g := gb393) (o := .cells (rr14 0 0 0 0 0 0 0 0 0 0 0 0 0 0) 36 (0, 0)) (BD BK393)) : gb393 ≠ gb420); have NB420_393 := AA (by rw [hg]; exact Nat.ne_of_gt (blk_lt (g := gb393) (o := .cells (rr14 0 0 0 0 0 0 0 0 0 0 0 0 0 0) 36 (0, 0)) (BD BK393)) : gb420 ≠ gb393); replace BK393 := AA (blk_below (g := gb393) (o := .cells (rr14 0 0 0 0 0 0 0 0 0 0 0 0 0 0) 36 (0, 0)) (BD BK393) hb); have NB405_420 := AA (by rw [hg]; exact Nat.ne_of_lt (blk_lt (g := gb405) (o := .cells (rr9 t394 t395 t396 t397 t398 t399 t400 t401 t402) 45 (0, 0)) (BD BK405)) : gb405 ≠ gb420); have NB420_405 := AA (by rw [hg]; exact Nat.ne_of_gt (blk_lt (g := gb405) (o := .cells (rr9 t394 t395 t396 t397 t398 t399 t400 t401 t402) 45 (0, 0)) (BD BK405)) : gb420 ≠ gb405); replace BK405 := AA (blk_below (g := gb405) (o := .cells (rr9 t394 t395 t396 t397 t398 t399 t400 t401 t402) 45 (0, 0)) (BD BK405) hb); have NB409_420 := AA (by rw [hg]; exact Nat.ne_of_lt (blk_lt (g := gb409) (o := .cells (rr14 1 t406 t407 t399 t400 t401 0 0 0 t398 t400 t401 0 0) 36 (0, 0)) (BD BK409)) : gb409 ≠ gb420); have NB420_409 := AA (by rw [hg]; exact Nat.ne_of_gt (blk_lt (g := gb409) (o := .cells (rr14 1 t406 t407 t399 t400 t401 0 0 0 t398 t400 t401 0 0) 36 (0, 0)) (BD BK409)) : gb420 ≠ gb409); replace BK409 := AA (blk_below (g := gb409) (o := .cells (rr14 1 t406 t407 t399 t400 t401 0 0 0 t398 t400 t401 0 0) 36 (0, 0)) (BD BK409) hb); clear hb hbox hg; have hnb33 := NB420_393.out; have hnc33 := NB393_420.out; have hnb34 := NB420_405.out; have hnc34 := NB405_420.out; have hnb35 := NB420_409.out; have hnc35 := NB409_420.out; have hz36 := blk8 BK420.out; have hz37 := blk14 BK409.out; have hz38 := blk9 BK405.out))
    by_cases c21 : t419 = 0
    ·rw [if_pos c21] at H
     have c21b0 := BT c21
     have c21b1 := NF c21
     clear c21
     replace H := OB H
     obtain ⟨t421, A22, H⟩ := H
     (try set_option simprocs false in dsimp only at H)
     by_cases c23 : t421 = 0
     ·rw [if_pos c23] at H
      have c23b0 := BT c23
      have c23b1 := NF c23
      clear c23
      simp only [Option.some.injEq, Prod.mk.injEq] at H
      obtain ⟨rfl, rfl, rfl, rfl, rfl, rfl, rfl, rfl, rfl, rfl, rfl, rfl, rfl, rfl, rfl⟩ := H
      go_wp2_with (first | ((with_reducible refine gkx 32 rfl ?_); refine gL 120 Try.func32 rfl (weighbridgeref08_Verify.calls t399 t400 t401 t403 t421 _ A22.out) ?_; rintro w39 hb; (try clear A22); replace BK393 := AA (blk_below (g := gb393) (o := .cells (rr14 0 0 0 0 0 0 0 0 0 0 0 0 0 0) 36 (0, 0)) (BE BK393) hb); replace BK405 := AA (blk_below (g := gb405) (o := .cells (rr9 t394 t395 t396 t397 t398 t399 t400 t401 t402) 45 (0, 0)) (BE BK405) hb); replace BK409 := AA (blk_below (g := gb409) (o := .cells (rr14 1 t406 t407 t399 t400 t401 t410 t411 t414 t398 t400 t401 0 0) 36 (0, 0)) (BE BK409) hb); replace BK420 := AA (blk_below (g := gb420) (o := .cells (rr8 t410 t411 t412 t413 t414 t415 t416 t417) 70 (0, 0)) (BE BK420) hb); replace HB := BS HB hb; (try clear hb); have hz40 := blk14 BK409.out; have hz41 := blk14 BK393.out))
      refine bodyPost_ret (results_ct rfl _ _ gb393 36 #[.int .i64 1, .int .i64 t406, .int .i64 t407, .int .i64 t399, .int .u32 t400, .int .u32 t401, .int .i64 t410, .int .i64 t411, .int .i64 t414, .int .i64 t398, .int .u32 t400, .int .u32 t401, .int .i64 0, .int .i64 0] (0, 0) _ rfl (BE BK393) Try.underlying36 rfl (by kernel_rfl)) rfl ?_
      exact ⟨RT, BW HB⟩
     rw [if_neg c23] at H
     have c23b0 := BF c23
     have c23b1 := NT c23
     simp only [Option.some.injEq, Prod.mk.injEq] at H
     obtain ⟨rfl, rfl, rfl, rfl, rfl, rfl, rfl, rfl, rfl, rfl, rfl, rfl, rfl, rfl, rfl⟩ := H
     go_wp2_with (first | ((with_reducible refine gkx 32 rfl ?_); refine gL 120 Try.func32 rfl (weighbridgeref08_Verify.calls t399 t400 t401 t403 t421 _ A22.out) ?_; rintro w57 hb; (try clear A22); replace BK393 := AA (blk_below (g := gb393) (o := .cells (rr14 0 0 0 0 0 0 0 0 0 0 0 0 0 0) 36 (0, 0)) (BE BK393) hb); replace BK405 := AA (blk_below (g := gb405) (o := .cells (rr9 t394 t395 t396 t397 t398 t399 t400 t401 t402) 45 (0, 0)) (BE BK405) hb); replace BK409 := AA (blk_below (g := gb409) (o := .cells (rr14 1 t406 t407 t399 t400 t401 t410 t411 t414 t398 t400 t401 0 0) 36 (0, 0)) (BE BK409) hb); replace BK420 := AA (blk_below (g := gb420) (o := .cells (rr8 t410 t411 t412 t413 t414 t415 t416 t417) 70 (0, 0)) (BE BK420) hb); replace HB := BS HB hb; (try clear hb); have hz58 := blk14 BK393.out))
     refine bodyPost_ret (results_ct rfl _ _ gb393 36 #[.int .i64 0, .int .i64 0, .int .i64 0, .int .i64 0, .int .u32 0, .int .u32 0, .int .i64 0, .int .i64 0, .int .i64 0, .int .i64 0, .int .u32 0, .int .u32 0, .int .i64 0, .int .i64 0] (0, 0) _ rfl (BE BK393) Try.underlying36 rfl (by kernel_rfl)) rfl ?_
     exact ⟨RT, BW HB⟩
    rw [if_neg c21] at H
    have c21b0 := BF c21
    have c21b1 := NT c21
    simp only [Option.some.injEq, Prod.mk.injEq] at H
    obtain ⟨rfl, rfl, rfl, rfl, rfl, rfl, rfl, rfl, rfl, rfl, rfl, rfl, rfl, rfl, rfl⟩ := H
    obtain ⟨zz0, zz1, zz2, zz3, zz4, zz5, zz6, zz7, zz8, zz9, zz10, zz11, zz12, zz13, yy0, yy1, yy2, yy3, yy4, yy5, yy6, yy7, yy8, yy9, yy10, yy11, yy12, yy13⟩ := blk14 BK393.out
    go_wp2_with (fail)
    refine bodyPost_ret (results_ct rfl _ _ gb393 36 #[.int .i64 0, .int .i64 0, .int .i64 0, .int .i64 0, .int .u32 0, .int .u32 0, .int .i64 0, .int .i64 0, .int .i64 0, .int .i64 0, .int .u32 0, .int .u32 0, .int .i64 0, .int .i64 0] (0, 0) _ rfl (BE BK393) Try.underlying36 rfl (by kernel_rfl)) rfl ?_
    exact ⟨RT, BW HB⟩
   rw [if_neg c19] at H
   have c19b0 := BF c19
   have c19b1 := NT c19
   by_cases c73 : t399 = 17
   ·rw [if_pos c73] at H
    have c73b0 := BT c73
    have c73b1 := NF c73
    clear c73
    replace H := OB H
    obtain ⟨⟨t422, t423, t424, t425⟩, A74, H⟩ := H
    (try set_option simprocs false in dsimp only at H)
    by_cases c75 : t425 = 0
    ·rw [if_pos c75] at H
     have c75b0 := BT c75
     have c75b1 := NF c75
     clear c75
     replace H := OB H
     obtain ⟨t426, A76, H⟩ := H
     (try set_option simprocs false in dsimp only at H)
     by_cases c77 : t426 = 0
     ·rw [if_pos c77] at H
      have c77b0 := BT c77
      have c77b1 := NF c77
      clear c77
      simp only [Option.some.injEq, Prod.mk.injEq] at H
      obtain ⟨rfl, rfl, rfl, rfl, rfl, rfl, rfl, rfl, rfl, rfl, rfl, rfl, rfl, rfl, rfl⟩ := H
      go_wp2_with (first | ((with_reducible refine gkx 30 rfl ?_); refine gL 91 Try.func30 rfl (weighbridgeref06_Parse.calls t403 t422 t423 t424 t425 _ A74.out) ?_; rintro w' ⟨nd, rfl⟩) | ((with_reducible refine gkx 32 rfl ?_); refine gL 120 Try.func32 rfl (weighbridgeref08_Verify.calls t399 t400 t401 t403 t426 _ A76.out) ?_; rintro w85 hb; (try clear A76); replace BK393 := AA (blk_below (g := gb393) (o := .cells (rr14 0 0 0 0 0 0 0 0 0 0 0 0 0 0) 36 (0, 0)) (BE BK393) hb); replace BK405 := AA (blk_below (g := gb405) (o := .cells (rr9 t394 t395 t396 t397 t398 t399 t400 t401 t402) 45 (0, 0)) (BE BK405) hb); replace BK409 := AA (blk_below (g := gb409) (o := .cells (rr14 1 t406 t407 t399 t400 t401 t422 t423 0 t398 t400 t401 0 0) 36 (0, 0)) (BE BK409) hb); replace HB := BS HB hb; (try clear hb); have hz86 := blk14 BK409.out; have hz87 := blk14 BK393.out))
      refine bodyPost_ret (results_ct rfl _ _ gb393 36 #[.int .i64 1, .int .i64 t406, .int .i64 t407, .int .i64 t399, .int .u32 t400, .int .u32 t401, .int .i64 t422, .int .i64 t423, .int .i64 0, .int .i64 t398, .int .u32 t400, .int .u32 t401, .int .i64 0, .int .i64 0] (0, 0) _ rfl (BE BK393) Try.underlying36 rfl (by kernel_rfl)) rfl ?_
      exact ⟨RT, BW HB⟩
     rw [if_neg c77] at H
     have c77b0 := BF c77
     have c77b1 := NT c77
     simp only [Option.some.injEq, Prod.mk.injEq] at H
     obtain ⟨rfl, rfl, rfl, rfl, rfl, rfl, rfl, rfl, rfl, rfl, rfl, rfl, rfl, rfl, rfl⟩ := H
     go_wp2_with (first | ((with_reducible refine gkx 30 rfl ?_); refine gL 91 Try.func30 rfl (weighbridgeref06_Parse.calls t403 t422 t423 t424 t425 _ A74.out) ?_; rintro w' ⟨nd, rfl⟩) | ((with_reducible refine gkx 32 rfl ?_); refine gL 120 Try.func32 rfl (weighbridgeref08_Verify.calls t399 t400 t401 t403 t426 _ A76.out) ?_; rintro w95 hb; (try clear A76); replace BK393 := AA (blk_below (g := gb393) (o := .cells (rr14 0 0 0 0 0 0 0 0 0 0 0 0 0 0) 36 (0, 0)) (BE BK393) hb); replace BK405 := AA (blk_below (g := gb405) (o := .cells (rr9 t394 t395 t396 t397 t398 t399 t400 t401 t402) 45 (0, 0)) (BE BK405) hb); replace BK409 := AA (blk_below (g := gb409) (o := .cells (rr14 1 t406 t407 t399 t400 t401 t422 t423 0 t398 t400 t401 0 0) 36 (0, 0)) (BE BK409) hb); replace HB := BS HB hb; (try clear hb); have hz96 := blk14 BK393.out))
     refine bodyPost_ret (results_ct rfl _ _ gb393 36 #[.int .i64 0, .int .i64 0, .int .i64 0, .int .i64 0, .int .u32 0, .int .u32 0, .int .i64 0, .int .i64 0, .int .i64 0, .int .i64 0, .int .u32 0, .int .u32 0, .int .i64 0, .int .i64 0] (0, 0) _ rfl (BE BK393) Try.underlying36 rfl (by kernel_rfl)) rfl ?_
     exact ⟨RT, BW HB⟩
    rw [if_neg c75] at H
    have c75b0 := BF c75
    have c75b1 := NT c75
    simp only [Option.some.injEq, Prod.mk.injEq] at H
    obtain ⟨rfl, rfl, rfl, rfl, rfl, rfl, rfl, rfl, rfl, rfl, rfl, rfl, rfl, rfl, rfl⟩ := H
    go_wp2_with (first | ((with_reducible refine gkx 30 rfl ?_); refine gL 91 Try.func30 rfl (weighbridgeref06_Parse.calls t403 t422 t423 t424 t425 _ A74.out) ?_; rintro w' ⟨nd, rfl⟩; have hz104 := blk14 BK393.out))
    refine bodyPost_ret (results_ct rfl _ _ gb393 36 #[.int .i64 0, .int .i64 0, .int .i64 0, .int .i64 0, .int .u32 0, .int .u32 0, .int .i64 0, .int .i64 0, .int .i64 0, .int .i64 0, .int .u32 0, .int .u32 0, .int .i64 0, .int .i64 0] (0, 0) _ rfl (BE BK393) Try.underlying36 rfl (by kernel_rfl)) rfl ?_
    exact ⟨RT, BW HB⟩
   rw [if_neg c73] at H
   have c73b0 := BF c73
   have c73b1 := NT c73
   by_cases c105 : t399 = 1
   ·rw [if_pos c105] at H
    have c105b0 := BT c105
    have c105b1 := NF c105
    clear c105
    replace H := OB H
    obtain ⟨⟨t427, t428, t429, t430, t431, t432, t433, t434, t435, t436, t437, t438, t439, t440, t441⟩, A106, H⟩ := H
    (try set_option simprocs false in dsimp only at H)
    simp only [Option.some.injEq, Prod.mk.injEq] at H
    obtain ⟨rfl, rfl, rfl, rfl, rfl, rfl, rfl, rfl, rfl, rfl, rfl, rfl, rfl, rfl, rfl⟩ := H
    go_wp2_with (first | ((with_reducible refine gkx 31 rfl ?_); refine gL 110 Try.func31 rfl (weighbridgeref09_about.calls kj3 1 t406 t407 t399 t400 t401 0 0 0 t398 t400 t401 0 0 t403 t427 t428 t429 t430 t431 t432 t433 t434 t435 t436 t437 t438 t439 t440 t441 _ A106.out) ?_; rintro w114 hb; (try clear A106); replace BK393 := AA (blk_below (g := gb393) (o := .cells (rr14 0 0 0 0 0 0 0 0 0 0 0 0 0 0) 36 (0, 0)) (BE BK393) hb); replace BK405 := AA (blk_below (g := gb405) (o := .cells (rr9 t394 t395 t396 t397 t398 t399 t400 t401 t402) 45 (0, 0)) (BE BK405) hb); replace BK409 := AA (blk_below (g := gb409) (o := .cells (rr14 1 t406 t407 t399 t400 t401 0 0 0 t398 t400 t401 0 0) 36 (0, 0)) (BE BK409) hb); replace HB := BS HB hb; (try clear hb); have hz115 := blk14 BK393.out))
    refine bodyPost_ret (results_ct rfl _ _ gb393 36 #[.int .i64 t427, .int .i64 t428, .int .i64 t429, .int .i64 t430, .int .u32 t431, .int .u32 t432, .int .i64 t433, .int .i64 t434, .int .i64 t435, .int .i64 t436, .int .u32 t437, .int .u32 t438, .int .i64 t439, .int .i64 t440] (0, 0) _ rfl (BE BK393) Try.underlying36 rfl (by kernel_rfl)) rfl ?_
    exact ⟨RT, BW HB⟩
   rw [if_neg c105] at H
   have c105b0 := BF c105
   have c105b1 := NT c105
   simp only [Option.some.injEq, Prod.mk.injEq] at H
   obtain ⟨rfl, rfl, rfl, rfl, rfl, rfl, rfl, rfl, rfl, rfl, rfl, rfl, rfl, rfl, rfl⟩ := H
   obtain ⟨zz0, zz1, zz2, zz3, zz4, zz5, zz6, zz7, zz8, zz9, zz10, zz11, zz12, zz13, yy0, yy1, yy2, yy3, yy4, yy5, yy6, yy7, yy8, yy9, yy10, yy11, yy12, yy13⟩ := blk14 BK393.out
   go_wp2_with (fail)
   refine bodyPost_ret (results_ct rfl _ _ gb393 36 #[.int .i64 0, .int .i64 0, .int .i64 0, .int .i64 0, .int .u32 0, .int .u32 0, .int .i64 0, .int .i64 0, .int .i64 0, .int .i64 0, .int .u32 0, .int .u32 0, .int .i64 0, .int .i64 0] (0, 0) _ rfl (BE BK393) Try.underlying36 rfl (by kernel_rfl)) rfl ?_
   exact ⟨RT, BW HB⟩

end Go.Proofs.Ytkganedlhcepfaa.Pr
