-- Written by a program of the session (wip/tools) out of the translation, over the kit's print; with pieces of the session's own.
import Derived.Test.YtfnjohklmpiboaaPr0
import Derived.Test.YtfnjohklmpiboaaPr6
import Derived.Test.YtfnjohklmpiboaaPr22
namespace Go.Proofs.Ytfnjohklmpiboaa.Pr
open Go.RowKit Go.Proofs.YtfnjohklmpiboaaW.PrintWords Go.Proofs.YtfnjohklmpiboaaW.PrintLast Go.Proofs.YtfnjohklmpiboaaW.PrintMore
attribute [local go_sem] max2_int min2_int max_two min_two max_three min_three max_four min_four   -- for this text's walks alone
set_option linter.unusedVariables false
set_option linter.unusedSimpArgs false
open Go.Proofs.Ytfnjohklmpiboaa.Sp
/-! ### weighbridgeref10_Plain: function 13 -/
def weighbridgeref10_Plain.f (k : Nat) (a0 : ByteArray) (a1_0 : Int) (a1_1 : Int) (a1_2 : Int) (a1_3 : Int) : Option (ByteArray × Int) := (weighbridgeref10_ready.f k a0 1 a1_0 a1_1 a1_2 a1_3).bind fun bt452 => (if bt452.2.2.2.2.2.2.2.2.2.2.2.2.2.2 = 0 then (if 0 ≤ bt452.2.2.1 then (if bt452.2.2.1 ≤ (a0.size : Int) then ((weighbridgeref10_outer.f (a0.extract 0 (bt452.2.2.1 : Int).toNat) bt452.2.1 a1_0 a1_1).bind fun t468 => (if 0 ≤ bt452.2.1 then (if bt452.2.1 ≤ (t468.size : Int) then (if bt452.2.1 ≤ bt452.2.2.1 then ((weighbridgeref10_with.f (a0.extract (bt452.2.1 : Int).toNat (bt452.2.2.1 : Int).toNat) 0 2 a1_2).bind fun t469 => ((weighbridgeref10_with.f t469 2 2 a1_3).bind fun t470 => (if bt452.2.2.2.1 = 17 then ((weighbridgeref10_num.f t470 6 2).bind fun t471 => (if t471 = 0 then (if (t468.extract 0 (bt452.2.1 : Int).toNat).size + t470.size ≤ 9223372036854775807 then (some ((t468.extract 0 (bt452.2.1 : Int).toNat) ++ t470, 0)) else (none)) else ((weighbridgeref08_Fill.f bt452.2.2.2.1 a1_0 a1_1 t470).bind fun bt472 => (if (t468.extract 0 (bt452.2.1 : Int).toNat).size + bt472.1.size ≤ 9223372036854775807 then (some ((t468.extract 0 (bt452.2.1 : Int).toNat) ++ bt472.1, 0)) else (none))))) else ((weighbridgeref08_Fill.f bt452.2.2.2.1 a1_0 a1_1 t470).bind fun bt474 => (if (t468.extract 0 (bt452.2.1 : Int).toNat).size + bt474.1.size ≤ 9223372036854775807 then (some ((t468.extract 0 (bt452.2.1 : Int).toNat) ++ bt474.1, 0)) else (none)))))) else (none)) else (none)) else (none))) else (none)) else (none)) else (some ((⟨#[]⟩ : ByteArray), bt452.2.2.2.2.2.2.2.2.2.2.2.2.2.2)))
theorem weighbridgeref10_Plain.mono : ∀ a0 a1 a2 a3 a4 k, LeO (weighbridgeref10_Plain.f k a0 a1 a2 a3 a4) (weighbridgeref10_Plain.f (k + 1) a0 a1 a2 a3 a4) := by
 intro a0 a1 a2 a3 a4 k
 unfold weighbridgeref10_Plain.f
 repeat' first
   | (with_reducible exact weighbridgeref10_ready.mono _ _ _ _ _ _ _)
   | (with_reducible exact LeO.refl _)
   | (with_reducible exact LeO.none _)
   | (with_reducible refine LeO.ite ?_ ?_)
   | (with_reducible refine LeO.bind ?_ (fun _ => ?_))
   | exact weighbridgeref10_ready.mono _ _ _ _ _ _ _
   | exact LeO.none _
   | refine LeO.ite ?_ ?_
   | refine LeO.bind ?_ (fun _ => ?_)
def weighbridgeref10_Plain.T4 : Bool × List (List Nat × List Nat) := (true, [([], []), ([], []), ([1], [1]), ([0, 2], [0, 2]), ([], []), ([4], [4]), ([], []), ([6], [6]), ([], []), ([8], [8]), ([3, 5, 7, 9], [3, 5, 7, 9]), ([], []), ([11], [11]), ([10, 12], [10, 12]), ([13, 10, 0, 1, 2, 3, 4, 5, 6, 7, 8, 9, 10, 11, 12, 13], [13])])
def weighbridgeref10_Plain.B4 : List Nat := [0, 0, 2, 7, 0, 16, 0, 64, 0, 256, 1023, 0, 2048, 8191, 16383]
theorem weighbridgeref10_Plain.tab4 : rtab .any (opsOf Try.f13 4) = weighbridgeref10_Plain.T4 := by kernel_rfl
theorem weighbridgeref10_Plain.bits4 : waitsOk weighbridgeref10_Plain.T4.2 weighbridgeref10_Plain.B4 = true := by kernel_rfl
def weighbridgeref10_Plain.T5 : Bool × List (List Nat × List Nat) := (true, [([], []), ([], []), ([1], [1]), ([], []), ([3], [3]), ([0, 2, 4], [0, 2, 4]), ([], []), ([6], [6]), ([5, 7], [5, 7]), ([], []), ([9], [9]), ([8, 10, 8], [8, 10]), ([11, 11, 0, 1, 2, 3, 4, 5, 6, 7, 8, 9, 10, 11], [11])])
def weighbridgeref10_Plain.B5 : List Nat := [0, 0, 2, 0, 8, 31, 0, 64, 255, 0, 512, 2047, 4095]
theorem weighbridgeref10_Plain.tab5 : rtab .any (opsOf Try.f13 5) = weighbridgeref10_Plain.T5 := by kernel_rfl
theorem weighbridgeref10_Plain.bits5 : waitsOk weighbridgeref10_Plain.T5.2 weighbridgeref10_Plain.B5 = true := by kernel_rfl
set_option maxHeartbeats 8000000 in
set_option maxRecDepth 100000 in
theorem weighbridgeref10_Plain.calls (k : Nat) (a0 : ByteArray) (a1_0 : Int) (a1_1 : Int) (a1_2 : Int) (a1_3 : Int) (r1 : ByteArray) (r2 : Int) (w : World) (h : weighbridgeref10_Plain.f k a0 a1_0 a1_1 a1_2 a1_3 = some (r1, r2)) :
  Calls Try.prog 13 #[.string a0, .agg #[.int .u32 a1_0, .int .u32 a1_1, .int .i64 a1_2, .int .i64 a1_3]] w fun e w' => e = .returned (.tuple #[.string r1, .int .i64 r2]) ∧ Below w.heap.size w w' := by
 have hu36 := Try.underlying36
 have hu69 := Try.underlying69
 have HB := AA (Below.refl w.heap.size w)
 have H := h
 unfold weighbridgeref10_Plain.f at H
 clear h
 replace H := OB H
 obtain ⟨⟨t452, t453, t454, t455, t456, t457, t458, t459, t460, t461, t462, t463, t464, t465, t466⟩, A3, H⟩ := H
 (try set_option simprocs false in dsimp only at H)
 go_enter Try.func13, Try.ntmps13
 go_upto_if 19 with (first | ((with_reducible refine gate_dst (N := 3) rfl ?_); refine bx 3 36 #[.int .u32 a1_0, .int .u32 a1_1, .int .i64 a1_2, .int .i64 a1_3] ?_; intro gb451 hg w34 hbox hb; have BK451 := AA hbox; have GW451 := GS hg HB; have GE451 := GS hg HB; replace HB := BS HB hb; clear hb hbox hg; have hz35 := blk4 BK451.out) | ((with_reducible refine gkx 26 rfl ?_); refine gL 15 Try.func26 rfl (weighbridgeref10_ready.calls k a0 1 a1_0 a1_1 a1_2 a1_3 t452 t453 t454 t455 t456 t457 t458 t459 t460 t461 t462 t463 t464 t465 t466 _ A3.out) ?_; rintro w36 hb; (try clear A3); replace BK451 := AA (blk_below (g := gb451) (o := .cells #[.int .u32 a1_0, .int .u32 a1_1, .int .i64 a1_2, .int .i64 a1_3] 36 (0, 0)) (BD BK451) hb); replace HB := BS HB hb; (try clear hb)) | ((with_reducible refine gate_dst (N := 6) rfl ?_); refine bx 6 69 (rr14 0 0 0 0 0 0 0 0 0 0 0 0 0 0) ?_; intro gb467 hg w37 hbox hb; have BK467 := AA hbox; have GW467 := GS hg HB; have GE467 := GS hg HB; replace HB := BS HB hb; have NB451_467 := AA (by rw [hg]; exact Nat.ne_of_lt (blk_lt (g := gb451) (o := .cells #[.int .u32 a1_0, .int .u32 a1_1, .int .i64 a1_2, .int .i64 a1_3] 36 (0, 0)) (BD BK451)) : gb451 ≠ gb467); have NB467_451 := AA (by rw [hg]; exact Nat.ne_of_gt (blk_lt (g := gb451) (o := .cells #[.int .u32 a1_0, .int .u32 a1_1, .int .i64 a1_2, .int .i64 a1_3] 36 (0, 0)) (BD BK451)) : gb467 ≠ gb451); replace BK451 := AA (blk_below (g := gb451) (o := .cells #[.int .u32 a1_0, .int .u32 a1_1, .int .i64 a1_2, .int .i64 a1_3] 36 (0, 0)) (BD BK451) hb); clear hb hbox hg; have hnb38 := NB467_451.out; have hnc38 := NB451_467.out; have hz39 := blk14 BK467.out))
 by_cases c4 : t466 = 0
 rotate_left
 ·rw [if_neg c4] at H
  have c4b0 := BF c4
  have c4b1 := NT c4
  simp only [Option.some.injEq, Prod.mk.injEq] at H
  obtain ⟨rfl, rfl⟩ := H
  go_wp2_with (fail)
  go_ret2
  exact ⟨RT, BW HB⟩
 rw [if_pos c4] at H
 have c4b0 := BT c4
 have c4b1 := NF c4
 clear c4
 replace H := IU H
 obtain ⟨c5b0, c5b1, H⟩ := H
 replace H := IU H
 obtain ⟨c6b0, c6b1, H⟩ := H
 replace H := OB H
 obtain ⟨t468, A7, H⟩ := H
 (try set_option simprocs false in dsimp only at H)
 replace H := IU H
 obtain ⟨c8b0, c8b1, H⟩ := H
 replace H := IU H
 obtain ⟨c9b0, c9b1, H⟩ := H
 have c10b0 := eq_true (DA : 0 ≤ t453)
 replace H := IU H
 obtain ⟨c11b0, c11b1, H⟩ := H
 have c12b0 := eq_true (DA : t454 ≤ (a0.size : Int))
 replace H := OB H
 obtain ⟨t469, A13, H⟩ := H
 (try set_option simprocs false in dsimp only at H)
 replace H := OB H
 obtain ⟨t470, A14, H⟩ := H
 (try set_option simprocs false in dsimp only at H)
 by_cases c15 : t455 = 17
 rotate_left
 ·rw [if_neg c15] at H
  have c15b0 := BF c15
  have c15b1 := NT c15
  replace H := OB H
  obtain ⟨⟨t474, t475⟩, A49, H⟩ := H
  (try set_option simprocs false in dsimp only at H)
  replace H := IT H
  obtain ⟨c50, H⟩ := H
  have c50b0 := eq_true c50
  have c50b1 := decide_eq_true c50
  try have c50b2 := eq_false (Nat.not_lt.2 c50)
  (try (have c50r := c50; simp only [ByteArray.size_append, ByteArray.size_extract, Nat.sub_zero, Nat.min_self] at c50r; have c50rt := eq_true c50r; have c50ru := eq_false (Nat.not_lt.mpr c50r); clear c50r))
  (try (have c50s := c50; simp [c5b0, c6b0, c8b0, c9b0, c10b0, c11b0, c12b0] at c50s; have c50t := eq_true c50s; have c50u := eq_false (Nat.not_lt.mpr c50s); clear c50s))
  simp only [Option.some.injEq, Prod.mk.injEq] at H
  obtain ⟨rfl, rfl⟩ := H
  try go_wp2_with (fail)
  obtain ⟨w57, he, hp, hf, hb⟩ := ex14 w37 t452 t453 t454 t455 t456 t457 t458 t459 t460 t461 t462 t463 t464 t465 BK467
  rw [he]
  replace BK451 := FF hf NB451_467 BK451
  replace HB := FB hb GE467 HB
  replace BK467 := hp
  clear he hp hf hb
  replace BK451 := AA (blk_drew BK451.out)
  replace BK467 := AA (blk_drew BK467.out)
  replace HB := AA (below_drew1 HB.out)
  refine start_ (n := 15) (S := fun w' => c14 gb467 t452 t453 t454 t455 t456 t457 t458 t459 t460 t461 t462 t463 t464 t465 w' ∧ w'.cell? ⟨gb451, 0, none⟩ = some (.int .u32 a1_0) ∧ w'.cell? ⟨gb451, 1, none⟩ = some (.int .u32 a1_1) ∧ w'.cell? ⟨gb451, 2, none⟩ = some (.int .i64 a1_2) ∧ w'.cell? ⟨gb451, 3, none⟩ = some (.int .i64 a1_3)) (ds := []) (bm 15 0x0) (by kernel_rfl) rfl rfl (HCt BK467 BK451) (fun hHeld => ?_); refine with_tabW weighbridgeref10_Plain.tab4 weighbridgeref10_Plain.bits4 (fun HT_ HW_ => ?_)
  generalize w57.drew = w58 at BK451 BK467 HB hHeld ⊢
  refine pu 0 21 (bm 15 0x1) HT_ ?_
  refine pu 1 22 (bm 15 0x3) HT_ ?_
  refine pu 4 25 (bm 15 0x13) HT_ ?_
  refine pu 6 27 (bm 15 0x53) HT_ ?_
  refine pu 8 29 (bm 15 0x153) HT_ ?_
  refine pu 11 32 (bm 15 0x953) HT_ ?_
  refine tw 2 23 (bm 15 0x957) HT_ HW_ hHeld ?_
  refine pu 3 24 (bm 15 0x95f) HT_ ?_
  refine tw 5 26 (bm 15 0x97f) HT_ HW_ hHeld ?_
  refine tw 7 28 (bm 15 0x9ff) HT_ HW_ hHeld ?_
  refine tw 9 30 (bm 15 0xbff) HT_ HW_ hHeld ?_
  refine tw 12 33 (bm 15 0x1bff) HT_ HW_ hHeld ?_
  refine oN 10 31 (bm 15 0x1fff) HT_ (fun K hK => ?_)
  refine gR Try.func27 rfl rfl (weighbridgeref10_outer.calls (a0.extract 0 (t454 : Int).toNat) t453 a1_0 a1_1 t468 _ A7.out) ?_
  rintro w59 hb
  replace BK451 := AA (blk_below (g := gb451) (o := .cells #[.int .u32 a1_0, .int .u32 a1_1, .int .i64 a1_2, .int .i64 a1_3] 36 (0, 0)) (BD BK451) hb)
  replace BK467 := AA (blk_below (g := gb467) (o := .cells (rr14 t452 t453 t454 t455 t456 t457 t458 t459 t460 t461 t462 t463 t464 t465) 69 (0, 0)) (BD BK467) hb)
  replace HB := BS HB hb
  try clear hb
  refine hK.out _ _ (HCt BK467 BK451) (fun hHeld => ?_)
  clear hK K
  refine nm 31 ?_
  refine pu 13 34 (bm 15 0x3fff) HT_ ?_
  refine pu 14 8 (bm 15 0x7fff) HT_ ?_
  refine done_ (done_of HT_.out (by kernel_rfl)) ?_
  try go_wp2
  replace BK451 := AA (blk_drew BK451.out)
  replace BK467 := AA (blk_drew BK467.out)
  replace HB := AA (below_drew1 HB.out)
  refine start_ (n := 13) (S := fun w' => c14 gb467 t452 t453 t454 t455 t456 t457 t458 t459 t460 t461 t462 t463 t464 t465 w' ∧ w'.cell? ⟨gb451, 0, none⟩ = some (.int .u32 a1_0) ∧ w'.cell? ⟨gb451, 1, none⟩ = some (.int .u32 a1_1) ∧ w'.cell? ⟨gb451, 2, none⟩ = some (.int .i64 a1_2) ∧ w'.cell? ⟨gb451, 3, none⟩ = some (.int .i64 a1_3)) (ds := []) (bm 13 0x0) (by kernel_rfl) rfl rfl (HCt BK467 BK451) (fun hHeld => ?_); refine with_tabW weighbridgeref10_Plain.tab5 weighbridgeref10_Plain.bits5 (fun HT_ HW_ => ?_)
  generalize w59.drew = w60 at BK451 BK467 HB hHeld ⊢
  refine pu 0 35 (bm 13 0x1) HT_ ?_
  refine pu 1 36 (bm 13 0x3) HT_ ?_
  refine pu 3 38 (bm 13 0xb) HT_ ?_
  refine pu 6 41 (bm 13 0x4b) HT_ ?_
  refine pu 9 44 (bm 13 0x24b) HT_ ?_
  refine tw 2 37 (bm 13 0x24f) HT_ HW_ hHeld ?_
  refine tw 4 39 (bm 13 0x25f) HT_ HW_ hHeld ?_
  refine pu 5 40 (bm 13 0x27f) HT_ ?_
  refine tw 7 42 (bm 13 0x2ff) HT_ HW_ hHeld ?_
  refine tw 10 45 (bm 13 0x6ff) HT_ HW_ hHeld ?_
  refine oN 8 43 (bm 13 0x7ff) HT_ (fun K hK => ?_)
  refine gR Try.func28 rfl rfl (weighbridgeref10_with.calls (a0.extract (t453 : Int).toNat (t454 : Int).toNat) 0 2 a1_2 t469 _ A13.out) ?_
  rintro w61 hb
  replace BK451 := AA (blk_below (g := gb451) (o := .cells #[.int .u32 a1_0, .int .u32 a1_1, .int .i64 a1_2, .int .i64 a1_3] 36 (0, 0)) (BD BK451) hb)
  replace BK467 := AA (blk_below (g := gb467) (o := .cells (rr14 t452 t453 t454 t455 t456 t457 t458 t459 t460 t461 t462 t463 t464 t465) 69 (0, 0)) (BD BK467) hb)
  replace HB := BS HB hb
  try clear hb
  refine hK.out _ _ (HCt BK467 BK451) (fun hHeld => ?_)
  clear hK K
  refine nm 43 ?_
  refine oN 11 46 (bm 13 0xfff) HT_ (fun K hK => ?_)
  refine gR Try.func28 rfl rfl (weighbridgeref10_with.calls t469 2 2 a1_3 t470 _ A14.out) ?_
  rintro w62 hb
  replace BK451 := AA (blk_below (g := gb451) (o := .cells #[.int .u32 a1_0, .int .u32 a1_1, .int .i64 a1_2, .int .i64 a1_3] 36 (0, 0)) (BD BK451) hb)
  replace BK467 := AA (blk_below (g := gb467) (o := .cells (rr14 t452 t453 t454 t455 t456 t457 t458 t459 t460 t461 t462 t463 t464 t465) 69 (0, 0)) (BD BK467) hb)
  replace HB := BS HB hb
  try clear hb
  refine hK.out _ _ (HCt BK467 BK451) (fun hHeld => ?_)
  clear hK K
  refine nm 46 ?_
  refine pu 12 9 (bm 13 0x1fff) HT_ ?_
  refine done_ (done_of HT_.out (by kernel_rfl)) ?_
  have hz63 := blk14 BK467.out
  have hz64 := blk4 BK451.out
  try go_wp2_with (first | ((with_reducible refine gkx 30 rfl ?_); refine gL 68 Try.func30 rfl (weighbridgeref08_Fill.calls t455 a1_0 a1_1 t470 t474 t475 _ A49.out) ?_; rintro w65 hb; (try clear A49); replace BK451 := AA (blk_below (g := gb451) (o := .cells #[.int .u32 a1_0, .int .u32 a1_1, .int .i64 a1_2, .int .i64 a1_3] 36 (0, 0)) (BD BK451) hb); replace BK467 := AA (blk_below (g := gb467) (o := .cells (rr14 t452 t453 t454 t455 t456 t457 t458 t459 t460 t461 t462 t463 t464 t465) 69 (0, 0)) (BD BK467) hb); replace HB := BS HB hb; (try clear hb)))
  go_ret2
  exact ⟨RT, BW HB⟩
 rw [if_pos c15] at H
 have c15b0 := BT c15
 have c15b1 := NF c15
 clear c15
 replace H := OB H
 obtain ⟨t471, A16, H⟩ := H
 (try set_option simprocs false in dsimp only at H)
 by_cases c17 : t471 = 0
 ·rw [if_pos c17] at H
  have c17b0 := BT c17
  have c17b1 := NF c17
  clear c17
  replace H := IT H
  obtain ⟨c18, H⟩ := H
  have c18b0 := eq_true c18
  have c18b1 := decide_eq_true c18
  try have c18b2 := eq_false (Nat.not_lt.2 c18)
  (try (have c18r := c18; simp only [ByteArray.size_append, ByteArray.size_extract, Nat.sub_zero, Nat.min_self] at c18r; have c18rt := eq_true c18r; have c18ru := eq_false (Nat.not_lt.mpr c18r); clear c18r))
  (try (have c18s := c18; simp [c5b0, c6b0, c8b0, c9b0, c10b0, c11b0, c12b0] at c18s; have c18t := eq_true c18s; have c18u := eq_false (Nat.not_lt.mpr c18s); clear c18s))
  simp only [Option.some.injEq, Prod.mk.injEq] at H
  obtain ⟨rfl, rfl⟩ := H
  try go_wp2_with (fail)
  obtain ⟨w25, he, hp, hf, hb⟩ := ex14 w37 t452 t453 t454 t455 t456 t457 t458 t459 t460 t461 t462 t463 t464 t465 BK467
  rw [he]
  replace BK451 := FF hf NB451_467 BK451
  replace HB := FB hb GE467 HB
  replace BK467 := hp
  clear he hp hf hb
  replace BK451 := AA (blk_drew BK451.out)
  replace BK467 := AA (blk_drew BK467.out)
  replace HB := AA (below_drew1 HB.out)
  refine start_ (n := 15) (S := fun w' => c14 gb467 t452 t453 t454 t455 t456 t457 t458 t459 t460 t461 t462 t463 t464 t465 w' ∧ w'.cell? ⟨gb451, 0, none⟩ = some (.int .u32 a1_0) ∧ w'.cell? ⟨gb451, 1, none⟩ = some (.int .u32 a1_1) ∧ w'.cell? ⟨gb451, 2, none⟩ = some (.int .i64 a1_2) ∧ w'.cell? ⟨gb451, 3, none⟩ = some (.int .i64 a1_3)) (ds := []) (bm 15 0x0) (by kernel_rfl) rfl rfl (HCt BK467 BK451) (fun hHeld => ?_); refine with_tabW weighbridgeref10_Plain.tab4 weighbridgeref10_Plain.bits4 (fun HT_ HW_ => ?_)
  generalize w25.drew = w26 at BK451 BK467 HB hHeld ⊢
  refine pu 0 21 (bm 15 0x1) HT_ ?_
  refine pu 1 22 (bm 15 0x3) HT_ ?_
  refine pu 4 25 (bm 15 0x13) HT_ ?_
  refine pu 6 27 (bm 15 0x53) HT_ ?_
  refine pu 8 29 (bm 15 0x153) HT_ ?_
  refine pu 11 32 (bm 15 0x953) HT_ ?_
  refine tw 2 23 (bm 15 0x957) HT_ HW_ hHeld ?_
  refine pu 3 24 (bm 15 0x95f) HT_ ?_
  refine tw 5 26 (bm 15 0x97f) HT_ HW_ hHeld ?_
  refine tw 7 28 (bm 15 0x9ff) HT_ HW_ hHeld ?_
  refine tw 9 30 (bm 15 0xbff) HT_ HW_ hHeld ?_
  refine tw 12 33 (bm 15 0x1bff) HT_ HW_ hHeld ?_
  refine oN 10 31 (bm 15 0x1fff) HT_ (fun K hK => ?_)
  refine gR Try.func27 rfl rfl (weighbridgeref10_outer.calls (a0.extract 0 (t454 : Int).toNat) t453 a1_0 a1_1 t468 _ A7.out) ?_
  rintro w27 hb
  replace BK451 := AA (blk_below (g := gb451) (o := .cells #[.int .u32 a1_0, .int .u32 a1_1, .int .i64 a1_2, .int .i64 a1_3] 36 (0, 0)) (BD BK451) hb)
  replace BK467 := AA (blk_below (g := gb467) (o := .cells (rr14 t452 t453 t454 t455 t456 t457 t458 t459 t460 t461 t462 t463 t464 t465) 69 (0, 0)) (BD BK467) hb)
  replace HB := BS HB hb
  try clear hb
  refine hK.out _ _ (HCt BK467 BK451) (fun hHeld => ?_)
  clear hK K
  refine nm 31 ?_
  refine pu 13 34 (bm 15 0x3fff) HT_ ?_
  refine pu 14 8 (bm 15 0x7fff) HT_ ?_
  refine done_ (done_of HT_.out (by kernel_rfl)) ?_
  try go_wp2
  replace BK451 := AA (blk_drew BK451.out)
  replace BK467 := AA (blk_drew BK467.out)
  replace HB := AA (below_drew1 HB.out)
  refine start_ (n := 13) (S := fun w' => c14 gb467 t452 t453 t454 t455 t456 t457 t458 t459 t460 t461 t462 t463 t464 t465 w' ∧ w'.cell? ⟨gb451, 0, none⟩ = some (.int .u32 a1_0) ∧ w'.cell? ⟨gb451, 1, none⟩ = some (.int .u32 a1_1) ∧ w'.cell? ⟨gb451, 2, none⟩ = some (.int .i64 a1_2) ∧ w'.cell? ⟨gb451, 3, none⟩ = some (.int .i64 a1_3)) (ds := []) (bm 13 0x0) (by kernel_rfl) rfl rfl (HCt BK467 BK451) (fun hHeld => ?_); refine with_tabW weighbridgeref10_Plain.tab5 weighbridgeref10_Plain.bits5 (fun HT_ HW_ => ?_)
  generalize w27.drew = w28 at BK451 BK467 HB hHeld ⊢
  refine pu 0 35 (bm 13 0x1) HT_ ?_
  refine pu 1 36 (bm 13 0x3) HT_ ?_
  refine pu 3 38 (bm 13 0xb) HT_ ?_
  refine pu 6 41 (bm 13 0x4b) HT_ ?_
  refine pu 9 44 (bm 13 0x24b) HT_ ?_
  refine tw 2 37 (bm 13 0x24f) HT_ HW_ hHeld ?_
  refine tw 4 39 (bm 13 0x25f) HT_ HW_ hHeld ?_
  refine pu 5 40 (bm 13 0x27f) HT_ ?_
  refine tw 7 42 (bm 13 0x2ff) HT_ HW_ hHeld ?_
  refine tw 10 45 (bm 13 0x6ff) HT_ HW_ hHeld ?_
  refine oN 8 43 (bm 13 0x7ff) HT_ (fun K hK => ?_)
  refine gR Try.func28 rfl rfl (weighbridgeref10_with.calls (a0.extract (t453 : Int).toNat (t454 : Int).toNat) 0 2 a1_2 t469 _ A13.out) ?_
  rintro w29 hb
  replace BK451 := AA (blk_below (g := gb451) (o := .cells #[.int .u32 a1_0, .int .u32 a1_1, .int .i64 a1_2, .int .i64 a1_3] 36 (0, 0)) (BD BK451) hb)
  replace BK467 := AA (blk_below (g := gb467) (o := .cells (rr14 t452 t453 t454 t455 t456 t457 t458 t459 t460 t461 t462 t463 t464 t465) 69 (0, 0)) (BD BK467) hb)
  replace HB := BS HB hb
  try clear hb
  refine hK.out _ _ (HCt BK467 BK451) (fun hHeld => ?_)
  clear hK K
  refine nm 43 ?_
  refine oN 11 46 (bm 13 0xfff) HT_ (fun K hK => ?_)
  refine gR Try.func28 rfl rfl (weighbridgeref10_with.calls t469 2 2 a1_3 t470 _ A14.out) ?_
  rintro w30 hb
  replace BK451 := AA (blk_below (g := gb451) (o := .cells #[.int .u32 a1_0, .int .u32 a1_1, .int .i64 a1_2, .int .i64 a1_3] 36 (0, 0)) (BD BK451) hb)
  replace BK467 := AA (blk_below (g := gb467) (o := .cells (rr14 t452 t453 t454 t455 t456 t457 t458 t459 t460 t461 t462 t463 t464 t465) 69 (0, 0)) (BD BK467) hb)
  replace HB := BS HB hb
  try clear hb
  refine hK.out _ _ (HCt BK467 BK451) (fun hHeld => ?_)
  clear hK K
  refine nm 46 ?_
  refine pu 12 9 (bm 13 0x1fff) HT_ ?_
  refine done_ (done_of HT_.out (by kernel_rfl)) ?_
  have hz31 := blk14 BK467.out
  try go_wp2_with (first | (go_at_call 29; (with_reducible refine (weighbridgeref10_num.calls t470 6 2 t471 _ A16.out).mono ?_); rintro e w' ⟨rfl, ⟨nd, rfl⟩⟩))
  go_ret2
  exact ⟨RT, BW HB⟩
 rw [if_neg c17] at H
 have c17b0 := BF c17
 have c17b1 := NT c17
 replace H := OB H
 obtain ⟨⟨t472, t473⟩, A32, H⟩ := H
 (try set_option simprocs false in dsimp only at H)
 replace H := IT H
 obtain ⟨c33, H⟩ := H
 have c33b0 := eq_true c33
 have c33b1 := decide_eq_true c33
 try have c33b2 := eq_false (Nat.not_lt.2 c33)
 (try (have c33r := c33; simp only [ByteArray.size_append, ByteArray.size_extract, Nat.sub_zero, Nat.min_self] at c33r; have c33rt := eq_true c33r; have c33ru := eq_false (Nat.not_lt.mpr c33r); clear c33r))
 (try (have c33s := c33; simp [c5b0, c6b0, c8b0, c9b0, c10b0, c11b0, c12b0] at c33s; have c33t := eq_true c33s; have c33u := eq_false (Nat.not_lt.mpr c33s); clear c33s))
 simp only [Option.some.injEq, Prod.mk.injEq] at H
 obtain ⟨rfl, rfl⟩ := H
 try go_wp2_with (fail)
 obtain ⟨w40, he, hp, hf, hb⟩ := ex14 w37 t452 t453 t454 t455 t456 t457 t458 t459 t460 t461 t462 t463 t464 t465 BK467
 rw [he]
 replace BK451 := FF hf NB451_467 BK451
 replace HB := FB hb GE467 HB
 replace BK467 := hp
 clear he hp hf hb
 replace BK451 := AA (blk_drew BK451.out)
 replace BK467 := AA (blk_drew BK467.out)
 replace HB := AA (below_drew1 HB.out)
 refine start_ (n := 15) (S := fun w' => c14 gb467 t452 t453 t454 t455 t456 t457 t458 t459 t460 t461 t462 t463 t464 t465 w' ∧ w'.cell? ⟨gb451, 0, none⟩ = some (.int .u32 a1_0) ∧ w'.cell? ⟨gb451, 1, none⟩ = some (.int .u32 a1_1) ∧ w'.cell? ⟨gb451, 2, none⟩ = some (.int .i64 a1_2) ∧ w'.cell? ⟨gb451, 3, none⟩ = some (.int .i64 a1_3)) (ds := []) (bm 15 0x0) (by kernel_rfl) rfl rfl (HCt BK467 BK451) (fun hHeld => ?_); refine with_tabW weighbridgeref10_Plain.tab4 weighbridgeref10_Plain.bits4 (fun HT_ HW_ => ?_)
 generalize w40.drew = w41 at BK451 BK467 HB hHeld ⊢
 refine pu 0 21 (bm 15 0x1) HT_ ?_
 refine pu 1 22 (bm 15 0x3) HT_ ?_
 refine pu 4 25 (bm 15 0x13) HT_ ?_
 refine pu 6 27 (bm 15 0x53) HT_ ?_
 refine pu 8 29 (bm 15 0x153) HT_ ?_
 refine pu 11 32 (bm 15 0x953) HT_ ?_
 refine tw 2 23 (bm 15 0x957) HT_ HW_ hHeld ?_
 refine pu 3 24 (bm 15 0x95f) HT_ ?_
 refine tw 5 26 (bm 15 0x97f) HT_ HW_ hHeld ?_
 refine tw 7 28 (bm 15 0x9ff) HT_ HW_ hHeld ?_
 refine tw 9 30 (bm 15 0xbff) HT_ HW_ hHeld ?_
 refine tw 12 33 (bm 15 0x1bff) HT_ HW_ hHeld ?_
 refine oN 10 31 (bm 15 0x1fff) HT_ (fun K hK => ?_)
 refine gR Try.func27 rfl rfl (weighbridgeref10_outer.calls (a0.extract 0 (t454 : Int).toNat) t453 a1_0 a1_1 t468 _ A7.out) ?_
 rintro w42 hb
 replace BK451 := AA (blk_below (g := gb451) (o := .cells #[.int .u32 a1_0, .int .u32 a1_1, .int .i64 a1_2, .int .i64 a1_3] 36 (0, 0)) (BD BK451) hb)
 replace BK467 := AA (blk_below (g := gb467) (o := .cells (rr14 t452 t453 t454 t455 t456 t457 t458 t459 t460 t461 t462 t463 t464 t465) 69 (0, 0)) (BD BK467) hb)
 replace HB := BS HB hb
 try clear hb
 refine hK.out _ _ (HCt BK467 BK451) (fun hHeld => ?_)
 clear hK K
 refine nm 31 ?_
 refine pu 13 34 (bm 15 0x3fff) HT_ ?_
 refine pu 14 8 (bm 15 0x7fff) HT_ ?_
 refine done_ (done_of HT_.out (by kernel_rfl)) ?_
 try go_wp2
 replace BK451 := AA (blk_drew BK451.out)
 replace BK467 := AA (blk_drew BK467.out)
 replace HB := AA (below_drew1 HB.out)
 refine start_ (n := 13) (S := fun w' => c14 gb467 t452 t453 t454 t455 t456 t457 t458 t459 t460 t461 t462 t463 t464 t465 w' ∧ w'.cell? ⟨gb451, 0, none⟩ = some (.int .u32 a1_0) ∧ w'.cell? ⟨gb451, 1, none⟩ = some (.int .u32 a1_1) ∧ w'.cell? ⟨gb451, 2, none⟩ = some (.int .i64 a1_2) ∧ w'.cell? ⟨gb451, 3, none⟩ = some (.int .i64 a1_3)) (ds := []) (bm 13 0x0) (by kernel_rfl) rfl rfl (HCt BK467 BK451) (fun hHeld => ?_); refine with_tabW weighbridgeref10_Plain.tab5 weighbridgeref10_Plain.bits5 (fun HT_ HW_ => ?_)
 generalize w42.drew = w43 at BK451 BK467 HB hHeld ⊢
 refine pu 0 35 (bm 13 0x1) HT_ ?_
 refine pu 1 36 (bm 13 0x3) HT_ ?_
 refine pu 3 38 (bm 13 0xb) HT_ ?_
 refine pu 6 41 (bm 13 0x4b) HT_ ?_
 refine pu 9 44 (bm 13 0x24b) HT_ ?_
 refine tw 2 37 (bm 13 0x24f) HT_ HW_ hHeld ?_
 refine tw 4 39 (bm 13 0x25f) HT_ HW_ hHeld ?_
 refine pu 5 40 (bm 13 0x27f) HT_ ?_
 refine tw 7 42 (bm 13 0x2ff) HT_ HW_ hHeld ?_
 refine tw 10 45 (bm 13 0x6ff) HT_ HW_ hHeld ?_
 refine oN 8 43 (bm 13 0x7ff) HT_ (fun K hK => ?_)
 refine gR Try.func28 rfl rfl (weighbridgeref10_with.calls (a0.extract (t453 : Int).toNat (t454 : Int).toNat) 0 2 a1_2 t469 _ A13.out) ?_
 rintro w44 hb
 replace BK451 := AA (blk_below (g := gb451) (o := .cells #[.int .u32 a1_0, .int .u32 a1_1, .int .i64 a1_2, .int .i64 a1_3] 36 (0, 0)) (BD BK451) hb)
 replace BK467 := AA (blk_below (g := gb467) (o := .cells (rr14 t452 t453 t454 t455 t456 t457 t458 t459 t460 t461 t462 t463 t464 t465) 69 (0, 0)) (BD BK467) hb)
 replace HB := BS HB hb
 try clear hb
 refine hK.out _ _ (HCt BK467 BK451) (fun hHeld => ?_)
 clear hK K
 refine nm 43 ?_
 refine oN 11 46 (bm 13 0xfff) HT_ (fun K hK => ?_)
 refine gR Try.func28 rfl rfl (weighbridgeref10_with.calls t469 2 2 a1_3 t470 _ A14.out) ?_
 rintro w45 hb
 replace BK451 := AA (blk_below (g := gb451) (o := .cells #[.int .u32 a1_0, .int .u32 a1_1, .int .i64 a1_2, .int .i64 a1_3] 36 (0, 0)) (BD BK451) hb)
 replace BK467 := AA (blk_below (g := gb467) (o := .cells (rr14 t452 t453 t454 t455 t456 t457 t458 t459 t460 t461 t462 t463 t464 t465) 69 (0, 0)) (BD BK467) hb)
 replace HB := BS HB hb
 try clear hb
 refine hK.out _ _ (HCt BK467 BK451) (fun hHeld => ?_)
 clear hK K
 refine nm 46 ?_
 refine pu 12 9 (bm 13 0x1fff) HT_ ?_
 refine done_ (done_of HT_.out (by kernel_rfl)) ?_
 have hz46 := blk14 BK467.out
 try go_wp2_with (first | (go_at_call 29; (with_reducible refine (weighbridgeref10_num.calls t470 6 2 t471 _ A16.out).mono ?_); rintro e w' ⟨rfl, ⟨nd, rfl⟩⟩; have hz47 := blk4 BK451.out) | ((with_reducible refine gkx 30 rfl ?_); refine gL 68 Try.func30 rfl (weighbridgeref08_Fill.calls t455 a1_0 a1_1 t470 t472 t473 _ A32.out) ?_; rintro w48 hb; (try clear A32); replace BK451 := AA (blk_below (g := gb451) (o := .cells #[.int .u32 a1_0, .int .u32 a1_1, .int .i64 a1_2, .int .i64 a1_3] 36 (0, 0)) (BD BK451) hb); replace BK467 := AA (blk_below (g := gb467) (o := .cells (rr14 t452 t453 t454 t455 t456 t457 t458 t459 t460 t461 t462 t463 t464 t465) 69 (0, 0)) (BD BK467) hb); replace HB := BS HB hb; (try clear hb)))
 go_ret2
 exact ⟨RT, BW HB⟩

end Go.Proofs.Ytfnjohklmpiboaa.Pr
