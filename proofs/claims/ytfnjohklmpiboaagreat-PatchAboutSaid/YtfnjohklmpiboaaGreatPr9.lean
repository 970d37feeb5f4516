-- trimmed by trims.py
-- Written by a program of the session (wip/tools) out of the translation, over the kit's print; with pieces of the session's own.
import Derived.Test.YtfnjohklmpiboaaGreatPr0
import Derived.Test.YtfnjohklmpiboaaGreatPr1
import Derived.Test.YtfnjohklmpiboaaGreatPr2
import Derived.Test.YtfnjohklmpiboaaGreatPr3
namespace Go.Proofs.YtfnjohklmpiboaaGreat.Pr
open Go.RowKit Go.Proofs.YtfnjohklmpiboaaGreatW.PrintWords Go.Proofs.YtfnjohklmpiboaaGreatW.PrintLast Go.Proofs.YtfnjohklmpiboaaGreatW.PrintMore
attribute [local go_sem] max2_int min2_int max_two min_two max_three min_three max_four min_four   -- for this text's walks alone
set_option linter.unusedVariables false
set_option linter.unusedSimpArgs false
open Go.Proofs.YtfnjohklmpiboaaGreat.Sp
/-! ### weighbridgeref07_Build_p: function 13 -/
def weighbridgeref07_Build_p.j0 : Nat → Bool → Int → Int → Int → ByteArray → Option (ByteArray × Int)
 | 0, _, _, _, _, _ => none
 | k + 1, x23, x201000, x201001, x201002, x201003 => if x23 = true then (some ((⟨#[]⟩ : ByteArray), 1)) else (if (wrap64 (8 + (x201003.size : Int))) > 1500 then (some ((⟨#[]⟩ : ByteArray), 18)) else ((weighbridgeref04_Num.f 1 x201000).bind fun t201 => ((weighbridgeref04_Num.f 1 x201001).bind fun t202 => (if t201.size + t202.size ≤ 9223372036854775807 then ((weighbridgeref04_Num.f 4 (wrap64 (x201002))).bind fun t203 => (if t203.size + x201003.size ≤ 9223372036854775807 then (if (t201 ++ t202).size + 2 ≤ 9223372036854775807 then (if ((t201 ++ t202) ++ (⟨#[0, 0]⟩ : ByteArray)).size + (t203 ++ x201003).size ≤ 9223372036854775807 then ((weighbridgeref03_Check.f (((t201 ++ t202) ++ (⟨#[0, 0]⟩ : ByteArray)) ++ (t203 ++ x201003))).bind fun t204 => ((weighbridgeref04_Num.f 2 (wrap64 (t204))).bind fun t205 => (if (t201 ++ t202).size + t205.size ≤ 9223372036854775807 then (if ((t201 ++ t202) ++ t205).size + (t203 ++ x201003).size ≤ 9223372036854775807 then (some (((t201 ++ t202) ++ t205) ++ (t203 ++ x201003), 0)) else (none)) else (none)))) else (none)) else (none)) else (none))) else (none)))))
def weighbridgeref07_Build_p.f (k : Nat) (a0_0 : Int) (a0_1 : Int) (a0_2 : Int) (a0_3 : ByteArray) : Option (ByteArray × Int) := if a0_0 < 0 then (weighbridgeref07_Build_p.j0 k true a0_0 a0_1 a0_2 a0_3) else (if a0_0 > 255 then (weighbridgeref07_Build_p.j0 k true a0_0 a0_1 a0_2 a0_3) else (if a0_1 < 0 then (weighbridgeref07_Build_p.j0 k true a0_0 a0_1 a0_2 a0_3) else (weighbridgeref07_Build_p.j0 k (decide (a0_1 > 255)) a0_0 a0_1 a0_2 a0_3)))
theorem weighbridgeref07_Build_p.mono_l : ∀ k, (∀ y0 y1 y2 y3 y4, LeO (weighbridgeref07_Build_p.j0 k y0 y1 y2 y3 y4) (weighbridgeref07_Build_p.j0 (k + 1) y0 y1 y2 y3 y4))
 | 0 => fun _ _ _ _ _ r h => by simp [weighbridgeref07_Build_p.j0] at h
 | k + 1 => by
  have ih0 := weighbridgeref07_Build_p.mono_l k
  ·intro y0 y1 y2 y3 y4
   unfold weighbridgeref07_Build_p.j0
   repeat' first
   | (with_reducible exact ih0 _ _ _ _ _)
   | (with_reducible exact LeO.refl _)
   | (with_reducible exact LeO.none _)
   | (with_reducible refine LeO.ite ?_ ?_)
   | (with_reducible refine LeO.bind ?_ (fun _ => ?_))
   | exact ih0 _ _ _ _ _
   | exact LeO.none _
   | refine LeO.ite ?_ ?_
   | refine LeO.bind ?_ (fun _ => ?_)
theorem weighbridgeref07_Build_p.mono : ∀ a0 a1 a2 a3 k, LeO (weighbridgeref07_Build_p.f k a0 a1 a2 a3) (weighbridgeref07_Build_p.f (k + 1) a0 a1 a2 a3) := by
 intro a0 a1 a2 a3 k
 have ih0 := weighbridgeref07_Build_p.mono_l k
 unfold weighbridgeref07_Build_p.f
 repeat' first
   | (with_reducible exact ih0 _ _ _ _ _)
   | (with_reducible exact LeO.refl _)
   | (with_reducible exact LeO.none _)
   | (with_reducible refine LeO.ite ?_ ?_)
   | (with_reducible refine LeO.bind ?_ (fun _ => ?_))
   | exact ih0 _ _ _ _ _
   | exact LeO.none _
   | refine LeO.ite ?_ ?_
   | refine LeO.bind ?_ (fun _ => ?_)
def weighbridgeref07_Build_p.T5 : Bool × List (List Nat × List Nat) := (true, [([], []), ([0], [0]), ([1], [1]), ([], []), ([3], [3]), ([4, 2], [4]), ([2, 5], [2, 5]), ([6, 5, 0, 1, 2, 3, 4, 5, 6], [6])])
def weighbridgeref07_Build_p.B5 : List Nat := [0, 1, 3, 0, 8, 31, 63, 127]
theorem weighbridgeref07_Build_p.tab5 : rtab .any (opsOf Tryz.f13 5) = weighbridgeref07_Build_p.T5 := by kernel_rfl
theorem weighbridgeref07_Build_p.bits5 : waitsOk weighbridgeref07_Build_p.T5.2 weighbridgeref07_Build_p.B5 = true := by kernel_rfl
def weighbridgeref07_Build_p.T6 : Bool × List (List Nat × List Nat) := (true, [([], []), ([0], [0]), ([1], [1]), ([2], [2]), ([], []), ([4], [4]), ([3, 5], [3, 5]), ([6, 3, 0, 1, 2, 3, 4, 5, 6], [6])])
def weighbridgeref07_Build_p.B6 : List Nat := [0, 1, 3, 7, 0, 16, 63, 127]
theorem weighbridgeref07_Build_p.tab6 : rtab .any (opsOf Tryz.f13 6) = weighbridgeref07_Build_p.T6 := by kernel_rfl
theorem weighbridgeref07_Build_p.bits6 : waitsOk weighbridgeref07_Build_p.T6.2 weighbridgeref07_Build_p.B6 = true := by kernel_rfl
set_option maxHeartbeats 8000000 in
set_option maxRecDepth 100000 in
theorem weighbridgeref07_Build_p.calls (k : Nat) (a0_0 : Int) (a0_1 : Int) (a0_2 : Int) (a0_3 : ByteArray) (r1 : ByteArray) (r2 : Int) (w : World) (h : weighbridgeref07_Build_p.f k a0_0 a0_1 a0_2 a0_3 = some (r1, r2)) :
  Calls Tryz.prog 13 #[.agg #[.int .i64 a0_0, .int .i64 a0_1, .int .u32 a0_2, .string a0_3]] w fun e w' => e = .returned (.tuple #[.string r1, .int .i64 r2]) ∧ Below w.heap.size w w' := by
 have hu47 := Tryz.underlying47
 have HB := AA (Below.refl w.heap.size w)
 have H := h
 unfold weighbridgeref07_Build_p.f at H
 clear h
 have HC2 := AA H
 clear H
 go_enter Tryz.func13, Tryz.ntmps13
 go_upto_region 1 with (first | ((with_reducible refine gate_dst (N := 1) rfl ?_); refine bx 1 47 #[.int .i64 a0_0, .int .i64 a0_1, .int .u32 a0_2, .string a0_3] ?_; intro gb200 hg w3 hbox hb; have BK200 := AA hbox; have GW200 := GS hg HB; have GE200 := GS hg HB; replace HB := BS HB hb; clear hb hbox hg))
 (try simp only [Act.put, List.setIfInBounds_toArray, List.set_cons_zero, List.set_cons_succ])
 go_cut [23] (fun v23 wc => ∃ (kq : Nat) (x23_1 : Bool), v23 = .bool x23_1 ∧ Aside0 (weighbridgeref07_Build_p.j0 kq x23_1 a0_0 a0_1 a0_2 a0_3 = some (r1, r2)) ∧ Aside0 (kq ≤ k) ∧ Aside0 (wc.heap[gb200]? = some (.cells #[.int .i64 a0_0, .int .i64 a0_1, .int .u32 a0_2, .string a0_3] 47 (0, 0))) ∧ Aside0 (Below w.heap.size w wc))
 case first =>
  have H := HC2.out
  clear HC2
  by_cases c4 : a0_0 < 0
  ·rw [if_pos c4] at H
   have c4b0 := decide_eq_true c4
   clear c4
   (first | rw [c4b0] | (simp only [i64_w, i32_w]; rw [c4b0]) | skip)
   have H' := AA H
   clear H
   have hz5 := blk4 BK200.out
   go_wp2
   go_meet
   case rel => exact ⟨_, (true), QS, H', LR, ⟨BD BK200⟩, ⟨BW HB⟩⟩
  rw [if_neg c4] at H
  have c4b0 := decide_eq_false c4
  clear c4
  (first | rw [c4b0] | (simp only [i64_w, i32_w]; rw [c4b0]) | skip)
  by_cases c6 : a0_0 > 255
  ·rw [if_pos c6] at H
   have c6b0 : decide (255 < a0_0) = true := decide_eq_true c6
   clear c6
   have H' := AA H
   clear H
   have hz7 := blk4 BK200.out
   go_wp2
   go_meet
   case rel => exact ⟨_, (true), QS, H', LR, ⟨BD BK200⟩, ⟨BW HB⟩⟩
  rw [if_neg c6] at H
  have c6b0 : decide (255 < a0_0) = false := decide_eq_false c6
  clear c6
  by_cases c8 : a0_1 < 0
  ·rw [if_pos c8] at H
   have c8b0 := decide_eq_true c8
   clear c8
   have H' := AA H
   clear H
   have hz9 := blk4 BK200.out
   go_wp2
   go_meet
   case rel => exact ⟨_, (true), QS, H', LR, ⟨BD BK200⟩, ⟨BW HB⟩⟩
  rw [if_neg c8] at H
  have c8b0 := decide_eq_false c8
  clear c8
  have H' := AA H
  clear H
  have hz10 := blk4 BK200.out
  go_wp2
  go_meet
  case rel => exact ⟨_, (decide (a0_1 > 255)), QS, H', LR, ⟨BD BK200⟩, ⟨BW HB⟩⟩
 case rest =>
  clear HC2
  try clear c1; try clear p2; try clear c4; try clear c4b0; try clear c6; try clear c6b0; try clear c8; try clear c8b0; try clear hz10; try clear hz5; try clear hz7; try clear hz9
  obtain ⟨kq, x23_1, rfl, HA, HJ1, BK200, HB⟩ := hcut
  cases kq with
  | zero => exact absurd HA.out (by simp [weighbridgeref07_Build_p.j0])
  | succ kj1 =>
   have H := HA.out
   clear HA
   simp only [weighbridgeref07_Build_p.j0] at H
   by_cases c11 : x23_1 = true
   ·subst c11
    first | rw [if_pos rfl] at H | rw [if_pos trivial] at H
    simp only [Option.some.injEq, Prod.mk.injEq] at H
    obtain ⟨rfl, rfl⟩ := H
    go_wp2
    go_ret2
    exact ⟨RT, BW HB⟩
   replace c11 := Bool.eq_false_iff.mpr c11
   subst c11
   replace H := IFN H
   by_cases c12 : (wrap64 (8 + (a0_3.size : Int))) > 1500
   ·rw [if_pos c12] at H
    have c12b0 : decide (1500 < (wrap64 (8 + (a0_3.size : Int)))) = true := decide_eq_true c12
    clear c12
    simp only [Option.some.injEq, Prod.mk.injEq] at H
    obtain ⟨rfl, rfl⟩ := H
    have hz13 := blk4 BK200.out
    go_wp2
    go_ret2
    exact ⟨RT, BW HB⟩
   rw [if_neg c12] at H
   have c12b0 : decide (1500 < (wrap64 (8 + (a0_3.size : Int)))) = false := decide_eq_false c12
   clear c12
   replace H := OB H
   obtain ⟨t201, A14, H⟩ := H
   (try set_option simprocs false in dsimp only at H)
   replace H := OB H
   obtain ⟨t202, A15, H⟩ := H
   (try set_option simprocs false in dsimp only at H)
   replace H := IT H
   obtain ⟨c16, H⟩ := H
   have c16b0 := eq_true c16
   have c16b1 := decide_eq_true c16
   try have c16b2 := eq_false (Nat.not_lt.2 c16)
   replace H := OB H
   obtain ⟨t203, A17, H⟩ := H
   (try set_option simprocs false in dsimp only at H)
   replace H := IT H
   obtain ⟨c18, H⟩ := H
   have c18b0 := eq_true c18
   have c18b1 := decide_eq_true c18
   try have c18b2 := eq_false (Nat.not_lt.2 c18)
   replace H := IT H
   obtain ⟨c19, H⟩ := H
   have c19b0 := eq_true c19
   have c19b1 := decide_eq_true c19
   try have c19b2 := eq_false (Nat.not_lt.2 c19)
   (try (have c19r := c19; simp only [ByteArray.size_append, ByteArray.size_extract, Nat.sub_zero, Nat.min_self] at c19r; have c19rt := eq_true c19r; have c19ru := eq_false (Nat.not_lt.mpr c19r); clear c19r))
   (try (have c19s := c19; simp [c16b0, c18b0] at c19s; have c19t := eq_true c19s; have c19u := eq_false (Nat.not_lt.mpr c19s); clear c19s))
   replace H := IT H
   obtain ⟨c20, H⟩ := H
   have c20b0 := eq_true c20
   have c20b1 := decide_eq_true c20
   try have c20b2 := eq_false (Nat.not_lt.2 c20)
   (try (have c20r := c20; simp only [ByteArray.size_append, ByteArray.size_extract, Nat.sub_zero, Nat.min_self] at c20r; (try rw [show (⟨#[0, 0]⟩ : ByteArray).size = 2 from rfl] at c20r); have c20rt := eq_true c20r; have c20ru := eq_false (Nat.not_lt.mpr c20r); clear c20r))
   (try (have c20s := c20; simp [c16b0, c18b0, c19b0] at c20s; have c20t := eq_true c20s; have c20u := eq_false (Nat.not_lt.mpr c20s); clear c20s))
   replace H := OB H
   obtain ⟨t204, A21, H⟩ := H
   (try set_option simprocs false in dsimp only at H)
   replace H := OB H
   obtain ⟨t205, A22, H⟩ := H
   (try set_option simprocs false in dsimp only at H)
   replace H := IT H
   obtain ⟨c23, H⟩ := H
   have c23b0 := eq_true c23
   have c23b1 := decide_eq_true c23
   try have c23b2 := eq_false (Nat.not_lt.2 c23)
   (try (have c23r := c23; simp only [ByteArray.size_append, ByteArray.size_extract, Nat.sub_zero, Nat.min_self] at c23r; have c23rt := eq_true c23r; have c23ru := eq_false (Nat.not_lt.mpr c23r); clear c23r))
   (try (have c23s := c23; simp [c16b0, c18b0, c19b0, c20b0] at c23s; have c23t := eq_true c23s; have c23u := eq_false (Nat.not_lt.mpr c23s); clear c23s))
   replace H := IT H
   obtain ⟨c24, H⟩ := H
   have c24b0 := eq_true c24
   have c24b1 := decide_eq_true c24
   try have c24b2 := eq_false (Nat.not_lt.2 c24)
   (try (have c24r := c24; simp only [ByteArray.size_append, ByteArray.size_extract, Nat.sub_zero, Nat.min_self] at c24r; have c24rt := eq_true c24r; have c24ru := eq_false (Nat.not_lt.mpr c24r); clear c24r))
   (try (have c24s := c24; simp [c16b0, c18b0, c19b0, c20b0, c23b0] at c24s; have c24t := eq_true c24s; have c24u := eq_false (Nat.not_lt.mpr c24s); clear c24s))
   simp only [Option.some.injEq, Prod.mk.injEq] at H
   obtain ⟨rfl, rfl⟩ := H
   have hz25 := blk4 BK200.out
   try go_wp2
   replace BK200 := AA (blk_drew BK200.out)
   replace HB := AA (below_drew1 HB.out)
   refine start_ (n := 8) (S := fun w' => w'.cell? ⟨gb200, 0, none⟩ = some (.int .i64 a0_0) ∧ w'.cell? ⟨gb200, 1, none⟩ = some (.int .i64 a0_1) ∧ w'.cell? ⟨gb200, 2, none⟩ = some (.int .u32 a0_2) ∧ w'.cell? ⟨gb200, 3, none⟩ = some (.string a0_3)) (ds := []) (bm 8 0x0) (by kernel_rfl) rfl rfl (HCs BK200) (fun hHeld => ?_); refine with_tabW weighbridgeref07_Build_p.tab5 weighbridgeref07_Build_p.bits5 (fun HT_ HW_ => ?_)
   generalize wc.drew = w26 at BK200 HB hHeld ⊢
   refine pu 0 29 (bm 8 0x1) HT_ ?_
   refine pu 3 32 (bm 8 0x9) HT_ ?_
   refine tw 1 30 (bm 8 0xb) HT_ HW_ hHeld ?_
   refine tw 4 33 (bm 8 0x1b) HT_ HW_ hHeld ?_
   refine oN 2 31 (bm 8 0x1f) HT_ (fun K hK => ?_)
   refine gR Tryz.func34 rfl rfl (weighbridgeref04_Num.calls 1 a0_0 t201 _ A14.out) ?_
   rintro w27 hb
   replace BK200 := BB BK200 hb
   replace HB := BS HB hb
   try clear hb
   refine hK.out _ _ (HCs BK200) (fun hHeld => ?_)
   clear hK K
   refine nm 31 ?_
   refine oN 5 34 (bm 8 0x3f) HT_ (fun K hK => ?_)
   refine gR Tryz.func34 rfl rfl (weighbridgeref04_Num.calls 1 a0_1 t202 _ A15.out) ?_
   rintro w28 hb
   replace BK200 := BB BK200 hb
   replace HB := BS HB hb
   try clear hb
   refine hK.out _ _ (HCs BK200) (fun hHeld => ?_)
   clear hK K
   refine nm 34 ?_
   refine pu 6 35 (bm 8 0x7f) HT_ ?_
   refine pu 7 4 (bm 8 0xff) HT_ ?_
   refine done_ (done_of HT_.out (by kernel_rfl)) ?_
   try go_wp2
   replace BK200 := AA (blk_drew BK200.out)
   replace HB := AA (below_drew1 HB.out)
   refine start_ (n := 8) (S := fun w' => w'.cell? ⟨gb200, 0, none⟩ = some (.int .i64 a0_0) ∧ w'.cell? ⟨gb200, 1, none⟩ = some (.int .i64 a0_1) ∧ w'.cell? ⟨gb200, 2, none⟩ = some (.int .u32 a0_2) ∧ w'.cell? ⟨gb200, 3, none⟩ = some (.string a0_3)) (ds := []) (bm 8 0x0) (by kernel_rfl) rfl rfl (HCs BK200) (fun hHeld => ?_); refine with_tabW weighbridgeref07_Build_p.tab6 weighbridgeref07_Build_p.bits6 (fun HT_ HW_ => ?_)
   generalize w28.drew = w29 at BK200 HB hHeld ⊢
   refine pu 0 36 (bm 8 0x1) HT_ ?_
   refine pu 4 40 (bm 8 0x11) HT_ ?_
   refine tw 1 37 (bm 8 0x13) HT_ HW_ hHeld ?_
   refine pu 2 38 (bm 8 0x17) HT_ ?_
   refine tw 5 41 (bm 8 0x37) HT_ HW_ hHeld ?_
   refine oN 3 39 (bm 8 0x3f) HT_ (fun K hK => ?_)
   refine gR Tryz.func34 rfl rfl (weighbridgeref04_Num.calls 4 (wrap64 (a0_2)) t203 _ A17.out) ?_
   rintro w30 hb
   replace BK200 := BB BK200 hb
   replace HB := BS HB hb
   try clear hb
   refine hK.out _ _ (HCs BK200) (fun hHeld => ?_)
   clear hK K
   refine nm 39 ?_
   refine pu 6 42 (bm 8 0x7f) HT_ ?_
   refine pu 7 5 (bm 8 0xff) HT_ ?_
   refine done_ (done_of HT_.out (by kernel_rfl)) ?_
   try go_wp2_with (first | ((with_reducible refine gkx 31 rfl ?_); refine gL 48 Tryz.func31 rfl (weighbridgeref03_Check.calls (((t201 ++ t202) ++ (⟨#[0, 0]⟩ : ByteArray)) ++ (t203 ++ a0_3)) t204 _ A21.out) ?_; rintro w31 hb; (try clear A21); replace BK200 := BB BK200 hb; replace HB := BS HB hb; (try clear hb)) | ((with_reducible refine gkx 34 rfl ?_); refine gL 50 Tryz.func34 rfl (weighbridgeref04_Num.calls 2 (wrap64 (t204)) t205 _ A22.out) ?_; rintro w32 hb; (try clear A22); replace BK200 := BB BK200 hb; replace HB := BS HB hb; (try clear hb)))
   go_ret2
   exact ⟨RT, BW HB⟩

theorem r7_wrap {n : Int} (h0 : -9223372036854775808 ≤ n) (h1 : n ≤ 9223372036854775807) : wrap64 n = n := by unfold wrap64; omega
def weighbridgeref07_Build.f (a0_0 a0_1 a0_2 : Int) (a0_3 : ByteArray) : Option (ByteArray × Int) := if 0 ≤ a0_2 ∧ a0_2 ≤ 4294967295 ∧ a0_3.size ≤ 140737488355328 then some (lb (Sp.icmpBuild a0_0 a0_1 a0_2 (bl a0_3)).1, (Sp.icmpBuild a0_0 a0_1 a0_2 (bl a0_3)).2) else none
theorem weighbridgeref07_Build_eq {a0_0 a0_1 a0_2 : Int} {a0_3 : ByteArray} (h0 : 0 ≤ a0_2 ∧ a0_2 ≤ 4294967295) (h1 : a0_3.size ≤ 140737488355328) : weighbridgeref07_Build.f a0_0 a0_1 a0_2 a0_3 = some (lb (Sp.icmpBuild a0_0 a0_1 a0_2 (bl a0_3)).1, (Sp.icmpBuild a0_0 a0_1 a0_2 (bl a0_3)).2) := by
 unfold weighbridgeref07_Build.f; exact if_pos ⟨h0.1, h0.2, h1⟩
theorem ref07_Build_no (a b c : Int) (s : ByteArray) (h : ¬ (Sp.fits 1 a = true ∧ Sp.fits 1 b = true)) : weighbridgeref07_Build_p.f 1 a b c s = some (lb [], 1) := by
 rw [Sp.fits1, Sp.fits1] at h
 unfold weighbridgeref07_Build_p.f
 simp only [weighbridgeref07_Build_p.j0]
 by_cases h1 : a < 0
 ·rw [if_pos h1, if_pos trivial]; rfl
 rw [if_neg h1]
 by_cases h2 : a > 255
 ·rw [if_pos h2, if_pos trivial]; rfl
 rw [if_neg h2]
 by_cases h3 : b < 0
 ·rw [if_pos h3, if_pos trivial]; rfl
 rw [if_neg h3, if_pos (decide_eq_true (by omega))]; rfl
theorem ref07_Build_yes (a b c : Int) (s : ByteArray) (ha : Sp.fits 1 a = true) (hb : Sp.fits 1 b = true) (hc : 0 ≤ c ∧ c ≤ 4294967295) (hs : s.size ≤ 140737488355328) :
  weighbridgeref07_Build_p.f 1 a b c s = some (lb (Sp.icmpBuild a b c (bl s)).1, (Sp.icmpBuild a b c (bl s)).2) := by
 have f := And.intro ha hb
 have h1 := Sp.fits1.1 ha
 have h2 := Sp.fits1.1 hb
 unfold weighbridgeref07_Build_p.f Sp.icmpBuild
 rw [if_neg (by omega), if_neg (by omega), if_neg (by omega), decide_eq_false (by omega), if_pos f, bl_length]
 simp only [weighbridgeref07_Build_p.j0]
 rw [if_neg (by decide), r7_wrap (n := 8 + (s.size : Int)) (by omega) (by omega)]
 by_cases hz : 8 + (s.size : Int) > 1500
 ·rw [if_pos hz, if_pos hz]; rfl
 have f4 : Sp.fits 4 c = true := Sp.fits_iff.2 ⟨by decide, by decide, hc.1, by show c < 256 ^ 4; omega⟩
 have hk := Sp.check_bounds (Sp.icmpBytes a b c (bl s) 0).1
 have hw : Sp.beBytes (1 : Int).toNat a ++ Sp.beBytes (1 : Int).toNat b ++ [0, 0] ++ (Sp.beBytes (4 : Int).toNat c ++ bl s) = (Sp.icmpBytes a b c (bl s) 0).1 := by
  rw [Sp.icmpBytes_yes f]; rw [← List.append_assoc]; rfl
 have l1 : ∀ x, (Sp.beBytes (1 : Int).toNat x).length = 1 := fun x => by rw [Sp.beBytes_length]; rfl
 have l2 : ∀ x, (Sp.beBytes (2 : Int).toNat x).length = 2 := fun x => by rw [Sp.beBytes_length]; rfl
 have l4 : ∀ x, (Sp.beBytes (4 : Int).toNat x).length = 4 := fun x => by rw [Sp.beBytes_length]; rfl
 rw [if_neg hz, if_neg hz, weighbridgeref04_Num_yes ha, Option.bind_some, weighbridgeref04_Num_yes hb, Option.bind_some, r7_wrap (n := c) (by omega) (by omega), weighbridgeref04_Num_yes f4]
 rw [show (⟨#[0, 0]⟩ : ByteArray) = lb [0, 0] from rfl, ← Sp.lb_bl s]
 simp only [Sp.bl_lb]
 rw [Sp.lb_append, if_pos (by rw [lb_size, lb_size, l1, l1]; decide), Option.bind_some, if_pos (by rw [lb_size, lb_size, bl_length, l4]; omega), if_pos (by rw [lb_size, List.length_append, l1, l1]; decide), Sp.lb_append, Sp.lb_append,
  if_pos (by rw [lb_size, lb_size, List.length_append, List.length_append, List.length_append, bl_length, l1, l1, l4]; simp; omega), Sp.lb_append, hw,
  weighbridgeref03_Check_eq (by rw [lb_size, Sp.icmpBytes_length f, bl_length]; omega), Option.bind_some, bl_lb, r7_wrap (by omega) (by omega), weighbridgeref04_Num_yes (Sp.fits2.2 hk), Option.bind_some,
  if_pos (by rw [lb_size, lb_size, List.length_append, l1, l1, l2]; decide), Sp.lb_append, if_pos (by rw [lb_size, lb_size, List.length_append, List.length_append, List.length_append, bl_length, l1, l1, l2, l4]; omega), Sp.lb_append]
 generalize Sp.check (Sp.icmpBytes a b c (bl s) 0).1 = ck
 rw [Sp.icmpBytes_yes f, ← List.append_assoc]; rfl
theorem weighbridgeref07_Build_ev (a0_0 a0_1 a0_2 : Int) (a0_3 : ByteArray) (r : ByteArray × Int) (h : weighbridgeref07_Build.f a0_0 a0_1 a0_2 a0_3 = some r) : ∃ k, weighbridgeref07_Build_p.f k a0_0 a0_1 a0_2 a0_3 = some r := by
 unfold weighbridgeref07_Build.f at h
 split at h
 case isFalse => cases h
 case isTrue hs =>
  rw [← h]
  refine ⟨1, ?_⟩
  by_cases hf : Sp.fits 1 a0_0 = true ∧ Sp.fits 1 a0_1 = true
  ·exact ref07_Build_yes a0_0 a0_1 a0_2 a0_3 hf.1 hf.2 ⟨hs.1, hs.2.1⟩ hs.2.2
  rw [ref07_Build_no _ _ _ _ hf]
  unfold Sp.icmpBuild
  rw [if_neg hf]

theorem weighbridgeref07_Build.calls (a0_0 : Int) (a0_1 : Int) (a0_2 : Int) (a0_3 : ByteArray) (r1 : ByteArray) (r2 : Int) (w : World) (h : weighbridgeref07_Build.f a0_0 a0_1 a0_2 a0_3 = some (r1, r2)) :
  Calls Tryz.prog 13 #[.agg #[.int .i64 a0_0, .int .i64 a0_1, .int .u32 a0_2, .string a0_3]] w fun e w' => e = .returned (.tuple #[.string r1, .int .i64 r2]) ∧ Below w.heap.size w w' := by
 obtain ⟨k, hk⟩ := weighbridgeref07_Build_ev a0_0 a0_1 a0_2 a0_3 _ h
 exact weighbridgeref07_Build_p.calls k a0_0 a0_1 a0_2 a0_3 r1 r2 w hk

/-! ### weighbridgeref07_Parse_p: function 97 -/
def weighbridgeref07_Parse_p.f (a0 : ByteArray) : Option (Int × Int × Int × ByteArray × Int) := if (a0.size : Int) < 8 then (some (0, 0, 0, (⟨#[]⟩ : ByteArray), 2)) else ((weighbridgeref03_Sum.f a0).bind fun t349 => (if t349 = 65535 then ((weighbridgeref01_Get.f a0 4 4).bind fun bt350 => (if 0 < (a0.size : Int) then (if 1 < (a0.size : Int) then (if 8 ≤ (a0.size : Int) then (some (wrap64 (bt a0 0), wrap64 (bt a0 1), (bt350.1) % 4294967296, a0.extract 8 a0.size, 0)) else (none)) else (none)) else (none))) else (some (0, 0, 0, (⟨#[]⟩ : ByteArray), 7))))
def weighbridgeref07_Parse_p.T6 : Bool × List (List Nat × List Nat) := (true, [([], []), ([0], [0]), ([1], [1]), ([], []), ([3], [3]), ([4], [4]), ([], []), ([6], [6]), ([], []), ([8], [8]), ([2, 5, 7, 9], [2, 5, 7, 9]), ([10, 0, 1, 2, 3, 4, 5, 6, 7, 8, 9, 10], [10]), ([11, 0, 1, 2, 3, 4, 5, 6, 7, 8, 9, 10, 11], [])])
def weighbridgeref07_Parse_p.B6 : List Nat := [0, 1, 3, 0, 8, 24, 0, 64, 0, 256, 1023, 2047, 4095]
theorem weighbridgeref07_Parse_p.tab6 : rtab .any (opsOf Tryz.f97 6) = weighbridgeref07_Parse_p.T6 := by kernel_rfl
theorem weighbridgeref07_Parse_p.bits6 : waitsOk weighbridgeref07_Parse_p.T6.2 weighbridgeref07_Parse_p.B6 = true := by kernel_rfl
set_option maxHeartbeats 8000000 in
set_option maxRecDepth 100000 in
theorem weighbridgeref07_Parse_p.calls (a0 : ByteArray) (r1 : Int) (r2 : Int) (r3 : Int) (r4 : ByteArray) (r5 : Int) (w : World) (h : weighbridgeref07_Parse_p.f a0 = some (r1, r2, r3, r4, r5)) :
  Calls Tryz.prog 97 #[.string a0] w fun e w' => e = .returned (.tuple #[.agg #[.int .i64 r1, .int .i64 r2, .int .u32 r3, .string r4], .int .i64 r5]) ∧ Below w.heap.size w w' := by
 have hu47 := Tryz.underlying47
 have HB := AA (Below.refl w.heap.size w)
 have H := h
 unfold weighbridgeref07_Parse_p.f at H
 clear h
 by_cases c2 : (a0.size : Int) < 8
 ·rw [if_pos c2] at H
  have c2b0 := decide_eq_true c2
  have c2b1 : decide (a0.size < 8) = true := decide_eq_true (by omega)
  clear c2
  simp only [Option.some.injEq, Prod.mk.injEq] at H
  obtain ⟨rfl, rfl, rfl, rfl, rfl⟩ := H
  go_enter Tryz.func97, Tryz.ntmps97
  go_wp2_with (first | ((with_reducible refine gate_dst (N := 2) rfl ?_); refine bx 2 47 #[.int .i64 0, .int .i64 0, .int .u32 0, .string (⟨#[]⟩ : ByteArray)] ?_; intro gb348 hg w3 hbox hb; have BK348 := AA hbox; have GW348 := GS hg HB; have GE348 := GS hg HB; replace HB := BS HB hb; clear hb hbox hg; have hz4 := blk4 BK348.out))
  refine bodyPost_ret (results_ct rfl _ _ gb348 47 #[.int .i64 0, .int .i64 0, .int .u32 0, .string (⟨#[]⟩ : ByteArray)] (0, 0) _ rfl (BE BK348) Tryz.underlying47 rfl (by kernel_rfl)) rfl ?_
  exact ⟨RT, BW HB⟩
 rw [if_neg c2] at H
 have c2b0 := decide_eq_false c2
 have c2b1 : decide (a0.size < 8) = false := decide_eq_false (by omega)
 clear c2
 replace H := OB H
 obtain ⟨t349, A5, H⟩ := H
 (try set_option simprocs false in dsimp only at H)
 by_cases c6 : t349 = 65535
 rotate_left
 ·rw [if_neg c6] at H
  have c6b0 := BF c6
  have c6b1 := NT c6
  simp only [Option.some.injEq, Prod.mk.injEq] at H
  obtain ⟨rfl, rfl, rfl, rfl, rfl⟩ := H
  go_enter Tryz.func97, Tryz.ntmps97
  go_wp2_with (first | ((with_reducible refine gate_dst (N := 2) rfl ?_); refine bx 2 47 #[.int .i64 0, .int .i64 0, .int .u32 0, .string (⟨#[]⟩ : ByteArray)] ?_; intro gb348 hg w20 hbox hb; have BK348 := AA hbox; have GW348 := GS hg HB; have GE348 := GS hg HB; replace HB := BS HB hb; clear hb hbox hg) | ((with_reducible refine gkx 48 rfl ?_); refine gL 11 Tryz.func48 rfl (weighbridgeref03_Sum.calls a0 t349 _ A5.out) ?_; rintro w21 hb; (try clear A5); replace BK348 := AA (blk_below (g := gb348) (o := .cells #[.int .i64 0, .int .i64 0, .int .u32 0, .string (⟨#[]⟩ : ByteArray)] 47 (0, 0)) (BD BK348) hb); replace HB := BS HB hb; (try clear hb); have hz22 := blk4 BK348.out))
  refine bodyPost_ret (results_ct rfl _ _ gb348 47 #[.int .i64 0, .int .i64 0, .int .u32 0, .string (⟨#[]⟩ : ByteArray)] (0, 0) _ rfl (BE BK348) Tryz.underlying47 rfl (by kernel_rfl)) rfl ?_
  exact ⟨RT, BW HB⟩
 rw [if_pos c6] at H
 have c6b0 := BT c6
 have c6b1 := NF c6
 clear c6
 replace H := OB H
 obtain ⟨⟨t350, t351⟩, A7, H⟩ := H
 (try set_option simprocs false in dsimp only at H)
 replace H := IT H
 obtain ⟨c8, H⟩ := H
 have c8b0 := decide_eq_true c8
 have c8b1 : decide (0 < a0.size) = true := decide_eq_true (by omega)
 clear c8
 replace H := IT H
 obtain ⟨c10, H⟩ := H
 have c10b0 := decide_eq_true c10
 have c10b1 : decide (1 < a0.size) = true := decide_eq_true (by omega)
 clear c10
 replace H := IU H
 obtain ⟨c12b0, c12b1, H⟩ := H
 simp only [Option.some.injEq, Prod.mk.injEq] at H
 obtain ⟨rfl, rfl, rfl, rfl, rfl⟩ := H
 go_enter Tryz.func97, Tryz.ntmps97
 try go_wp2_with (first | ((with_reducible refine gate_dst (N := 2) rfl ?_); refine bx 2 47 #[.int .i64 0, .int .i64 0, .int .u32 0, .string (⟨#[]⟩ : ByteArray)] ?_; intro gb348 hg w13 hbox hb; have BK348 := AA hbox; have GW348 := GS hg HB; have GE348 := GS hg HB; replace HB := BS HB hb; clear hb hbox hg) | ((with_reducible refine gkx 48 rfl ?_); refine gL 11 Tryz.func48 rfl (weighbridgeref03_Sum.calls a0 t349 _ A5.out) ?_; rintro w14 hb; (try clear A5); replace BK348 := AA (blk_below (g := gb348) (o := .cells #[.int .i64 0, .int .i64 0, .int .u32 0, .string (⟨#[]⟩ : ByteArray)] 47 (0, 0)) (BD BK348) hb); replace HB := BS HB hb; (try clear hb)) | ((with_reducible refine gkx 29 rfl ?_); refine gL 16 Tryz.func29 rfl (weighbridgeref01_Get.calls a0 4 4 t350 t351 _ A7.out) ?_; rintro w' ⟨nd, rfl⟩; (try (rw [drewN_self w14]; generalize hq_ : World.drewN w14 _ = w14; have n0_ : Aside0 (w14.heap[gb348]? = some (.cells #[.int .i64 0, .int .i64 0, .int .u32 0, .string (⟨#[]⟩ : ByteArray)] 47 (0, 0))) := ⟨by rw [← hq_]; exact (BD BK348)⟩; have n1_ : Aside0 (Below w.heap.size w w14) := ⟨by rw [← hq_]; exact (BW HB)⟩; clear BK348 HB hq_; have BK348 := n0_; have HB := n1_; clear n0_ n1_))))
 replace BK348 := AA (blk_drew BK348.out)
 replace HB := AA (below_drew1 HB.out)
 have p9 : 0 ≤ (0 : Int) := (by omega)
 have q9 : 0 < a0.size := (by have : (0 : Int) < (a0.size : Int) := DA; omega)
 have hx9 : ∀ h : 0 < a0.size, ((a0[0]'h).toNat : Int) = bt a0 0 := bt_at a0 0
 clear p9
 have qi9 : (0 < (a0.size : Int)) = True := eq_true (DA)
 replace q9 := eq_true q9
 have p11 : 0 ≤ (1 : Int) := (by omega)
 have q11 : 1 < a0.size := (by have : (1 : Int) < (a0.size : Int) := DA; omega)
 have hx11 : ∀ h : 1 < a0.size, ((a0[1]'h).toNat : Int) = bt a0 1 := bt_at a0 1
 clear p11
 have qi11 : (1 < (a0.size : Int)) = True := eq_true (DA)
 replace q11 := eq_true q11
 refine start_ (n := 13) (S := fun w' => True) (ds := []) (bm 13 0x0) (by kernel_rfl) rfl rfl trivial (fun hHeld => ?_); refine with_tabW weighbridgeref07_Parse_p.tab6 weighbridgeref07_Parse_p.bits6 (fun HT_ HW_ => ?_)
 generalize w14.drew = w15 at BK348 HB hHeld ⊢
 refine pu 0 19 (bm 13 0x1) HT_ ?_
 refine pu 3 22 (bm 13 0x9) HT_ ?_
 refine pu 6 25 (bm 13 0x49) HT_ ?_
 refine pu 7 26 (bm 13 0xc9) HT_ ?_
 refine pu 8 27 (bm 13 0x1c9) HT_ ?_
 refine pu 9 28 (bm 13 0x3c9) HT_ ?_
 refine take_ (i := 1) (N := some 20) (v := ?_) (a' := ?_) (bm 13 0x3cb) rfl rfl (take_ofW HT_.out HW_.out (by kernel_rfl)) (fun _ _ _ h => h) (Or.inl ⟨by rfl, ?_⟩) hHeld ?_ ?_
 rotate_left
 ·intro w' _
  go_simp
  with_reducible rfl
 rotate_left
 ·simp only [Act.put, zpA, zpO, zpS, i64_w, i32_w]
  rfl
 refine pu 2 21 (bm 13 0x3cf) HT_ ?_
 refine take_ (i := 4) (N := some 23) (v := ?_) (a' := ?_) (bm 13 0x3df) rfl rfl (take_ofW HT_.out HW_.out (by kernel_rfl)) (fun _ _ _ h => h) (Or.inl ⟨by rfl, ?_⟩) hHeld ?_ ?_
 rotate_left
 ·intro w' _
  go_simp
  with_reducible rfl
 rotate_left
 ·simp only [Act.put, zpA, zpO, zpS, i64_w, i32_w]
  rfl
 refine pu 5 24 (bm 13 0x3ff) HT_ ?_
 refine pu 10 29 (bm 13 0x7ff) HT_ ?_
 refine one_ (i := 11) (N := none) (bm 13 0xfff) rfl rfl (one_of HT_.out (by kernel_rfl)) (by decide) (fun K hK => ?_)
 have hs16 : w15.cell? ⟨gb348, 0, none⟩ = some (.int .i64 0) := (blk_cell BK348.out 0).trans rfl
 have hfs16 := blk_frozen BK348.out 0
 have hs17 : w15.cell? ⟨gb348, 1, none⟩ = some (.int .i64 0) := (blk_cell BK348.out 1).trans rfl
 have hfs17 := blk_frozen BK348.out 1
 have hs18 : w15.cell? ⟨gb348, 2, none⟩ = some (.int .u32 0) := (blk_cell BK348.out 2).trans rfl
 have hfs18 := blk_frozen BK348.out 2
 have hs19 : w15.cell? ⟨gb348, 3, none⟩ = some (.string (⟨#[]⟩ : ByteArray)) := (blk_cell BK348.out 3).trans rfl
 have hfs19 := blk_frozen BK348.out 3
 refine skip_ (w1 := ?_) (by rfl) rfl ?_ ?_
 rotate_left
 ·go_simp
  rfl
 refine hK.out _ _ trivial (fun hHeld => ?_)
 clear hK K
 refine pu 12 3 (bm 13 0x1fff) HT_ ?_
 refine done_ (done_of HT_.out (by kernel_rfl)) ?_
 try go_wp2
 refine bodyPost_ret (results_ct rfl _ _ gb348 47 #[.int .i64 (wrap64 (bt a0 0)), .int .i64 (wrap64 (bt a0 1)), .int .u32 ((t350) % 4294967296), .string (a0.extract 8 a0.size)] (0, 0) _ rfl (BE BK348) Tryz.underlying47 rfl (by kernel_rfl)) rfl ?_
 exact ⟨RT, BW HB⟩

theorem r7_b {s : ByteArray} {i : Nat} (h : i < s.size) : wrap64 (bt s (i : Int)) = Sp.byteAt (bl s) i := by
 have hb := Sp.byteAt_bounds (bl s) i
 have e : bt s (i : Int) = Sp.byteAt (bl s) i := by
  rw [bt_bl s (i : Int) (by rw [Int.toNat_natCast]; exact h)]
  unfold Sp.byteAt
  rw [List.getD_eq_getElem?_getD, List.getElem?_eq_getElem (by simpa using h)]; rfl
 rw [e]; exact wrap_id (by omega) (by omega)
theorem r7_small (s : List UInt8) (a b : Int) : 0 ≤ (Sp.get s a b).1 ∧ (Sp.get s a b).1 < 4294967296 := by
 unfold Sp.get
 split
 case isTrue h =>
  have := Sp.has_iff.1 h
  exact Sp.beNum_small _ (by rw [List.length_take]; omega)
 case isFalse => exact ⟨by decide, by decide⟩
theorem r7_drop (s : ByteArray) (n : Nat) : s.extract n s.size = lb ((bl s).drop n) := Sp.bl_inj (by rw [Sp.bl_extract, Sp.bl_lb, List.take_of_length_le (by rw [bl_length]; exact Nat.le_refl _)])
def weighbridgeref07_Parse.f (a0 : ByteArray) : Option (Int × Int × Int × ByteArray × Int) := if a0.size ≤ 1000000 then some ((Sp.icmpParse (bl a0)).t, (Sp.icmpParse (bl a0)).c, (Sp.icmpParse (bl a0)).r, lb (Sp.icmpParse (bl a0)).body, (Sp.icmpParse (bl a0)).e) else none
theorem weighbridgeref07_Parse_ev (a0 : ByteArray) (r : Int × Int × Int × ByteArray × Int) (h : weighbridgeref07_Parse.f a0 = some r) : weighbridgeref07_Parse_p.f a0 = some r := by
 unfold weighbridgeref07_Parse.f at h
 split at h
 case isFalse => cases h
 case isTrue hs =>
  rw [← h]
  unfold weighbridgeref07_Parse_p.f Sp.icmpParse
  by_cases h8 : a0.size < 8
  ·rw [if_pos (by omega), if_pos (by rw [bl_length]; exact h8)]; rfl
  rw [if_neg (by omega), if_neg (by rw [bl_length]; exact h8), weighbridgeref03_Sum_eq (by omega), Option.bind_some]
  by_cases hv : Sp.sum (bl a0) = 65535
  ·have e0 := r7_b (s := a0) (i := 0) (by omega)
   have e1 := r7_b (s := a0) (i := 1) (by omega)
   have hg := r7_small (bl a0) 4 4
   rw [if_pos hv, if_pos hv, weighbridgeref01_Get_eq _ _ _ (by omega), Option.bind_some, if_pos (by omega), if_pos (by omega), if_pos (by omega), show wrap64 (bt a0 0) = _ from e0, show wrap64 (bt a0 1) = _ from e1, Int.emod_eq_of_lt hg.1 hg.2, r7_drop a0 8]
  rw [if_neg hv, if_neg hv]; rfl
theorem weighbridgeref07_Parse.calls (a0 : ByteArray) (r1 : Int) (r2 : Int) (r3 : Int) (r4 : ByteArray) (r5 : Int) (w : World) (h : weighbridgeref07_Parse.f a0 = some (r1, r2, r3, r4, r5)) :
  Calls Tryz.prog 97 #[.string a0] w fun e w' => e = .returned (.tuple #[.agg #[.int .i64 r1, .int .i64 r2, .int .u32 r3, .string r4], .int .i64 r5]) ∧ Below w.heap.size w w' := by
 have hk := weighbridgeref07_Parse_ev a0 _ h
 exact weighbridgeref07_Parse_p.calls a0 r1 r2 r3 r4 r5 w hk

/-! ### weighbridgeref07_Error: function 98 -/
def weighbridgeref07_Error.f (a0 : Int) : Option (Bool) := if a0 = 3 then (some true) else (if a0 = 11 then (some true) else (some (a0 == 12)))
set_option maxHeartbeats 8000000 in
set_option maxRecDepth 100000 in
theorem weighbridgeref07_Error.calls (a0 : Int) (r : Bool) (w : World) (h : weighbridgeref07_Error.f a0 = some r) :
  Calls Tryz.prog 98 #[.int .i64 a0] w fun e w' => e = .returned (.bool r) ∧ Drawn0 w w' := by
 have H : (if a0 = 3 then (some true) else (if a0 = 11 then (some true) else (some (a0 == 12)))) = some r := h
 clear h
 by_cases c2 : a0 = 3
 ·rw [if_pos c2] at H
  have c2b0 := BT c2
  have c2b1 := NF c2
  clear c2
  obtain rfl := Option.some.inj H
  go_enter Tryz.func98, Tryz.ntmps98
  go_wp2
  go_ret
  exact ⟨RS, DW⟩
 rw [if_neg c2] at H
 have c2b0 := BF c2
 have c2b1 := NT c2
 by_cases c3 : a0 = 11
 ·rw [if_pos c3] at H
  have c3b0 := BT c3
  have c3b1 := NF c3
  clear c3
  obtain rfl := Option.some.inj H
  go_enter Tryz.func98, Tryz.ntmps98
  go_wp2
  go_ret
  exact ⟨RS, DW⟩
 rw [if_neg c3] at H
 have c3b0 := BF c3
 have c3b1 := NT c3
 obtain rfl := Option.some.inj H
 go_enter Tryz.func98, Tryz.ntmps98
 go_wp2
 go_ret
 exact ⟨RS, DW⟩

end Go.Proofs.YtfnjohklmpiboaaGreat.Pr
