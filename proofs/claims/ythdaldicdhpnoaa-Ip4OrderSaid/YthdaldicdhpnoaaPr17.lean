-- trimmed by trims.py
-- Written by a program of the session (wip/tools) out of the translation, over the kit's print; with pieces of the session's own.
import Derived.Test.YthdaldicdhpnoaaPr0
import Derived.Test.YthdaldicdhpnoaaPr3
import Derived.Test.YthdaldicdhpnoaaPr6
namespace Go.Proofs.Ythdaldicdhpnoaa.Pr
open Go.RowKit Go.Proofs.YthdaldicdhpnoaaW.PrintWords Go.Proofs.YthdaldicdhpnoaaW.PrintLast Go.Proofs.YthdaldicdhpnoaaW.PrintMore
attribute [local go_sem] max2_int min2_int max_two min_two max_three min_three max_four min_four   -- for this text's walks alone
set_option linter.unusedVariables false
set_option linter.unusedSimpArgs false
open Go.Proofs.Ythdaldicdhpnoaa.Sp
/-! ### weighbridgelaw04_Ip4Order: function 8 -/
mutual
def weighbridgelaw04_Ip4Order.j0 : Nat → Int → Bool → ByteArray → Bool → Option (Bool)
 | 0, _, _, _, _ => none
 | k + 1, x1, x5, x6, x42 => if x42 = true then (some false) else (if (wrap64 ((x6.size : Int) + 1)) = 0 then (none) else (if 0 ≤ (wrap64 ((x6.size : Int) - (Int.tmod (wrap64 (x1)) (wrap64 ((x6.size : Int) + 1))))) then (if (wrap64 ((x6.size : Int) - (Int.tmod (wrap64 (x1)) (wrap64 ((x6.size : Int) + 1))))) ≤ (x6.size : Int) then ((ip4_Parse.f (x6.extract 0 ((wrap64 ((x6.size : Int) - (Int.tmod (wrap64 (x1)) (wrap64 ((x6.size : Int) + 1))))) : Int).toNat)).bind fun bt391 => (if (Int.tmod (wrap64 (x1)) (wrap64 ((x6.size : Int) + 1))) > 0 then (weighbridgelaw04_Ip4Order.j1 k x5 x6 (Int.tmod (wrap64 (x1)) (wrap64 ((x6.size : Int) + 1))) bt391.2.2.2.2.2.2.2.2.2.2 5) else (weighbridgelaw04_Ip4Order.j1 k x5 x6 (Int.tmod (wrap64 (x1)) (wrap64 ((x6.size : Int) + 1))) bt391.2.2.2.2.2.2.2.2.2.2 0))) else (none)) else (none)))
def weighbridgelaw04_Ip4Order.j1 : Nat → Bool → ByteArray → Int → Int → Int → Option (Bool)
 | 0, _, _, _, _, _ => none
 | k + 1, x5, x6, x8, x11, x12 => if (wrap64 ((x6.size : Int) - x8)) < 20 then (if 1 ≤ (x6.size : Int) then (if 1 + (x6.extract 1 x6.size).size ≤ 9223372036854775807 then ((ip4_Parse.f ((⟨#[101]⟩ : ByteArray) ++ (x6.extract 1 x6.size))).bind fun bt403 => ((ip4_Parse.f ((⟨#[68]⟩ : ByteArray) ++ (x6.extract 1 x6.size))).bind fun bt415 => (if 0 ≤ 10 then (if 10 ≤ (x6.size : Int) then (if 10 < (x6.size : Int) then ((some (([Go.bits .xor .u8 (bt x6 10) 1] : List Int) : List Int)).bind fun y427 => (if (x6.extract 0 10).size + (strOfNums y427).size ≤ 9223372036854775807 then (if 11 ≤ (x6.size : Int) then (if ((x6.extract 0 10) ++ (strOfNums y427)).size + (x6.extract 11 x6.size).size ≤ 9223372036854775807 then ((ip4_Parse.f (((x6.extract 0 10) ++ (strOfNums y427)) ++ (x6.extract 11 x6.size))).bind fun bt430 => (if x5 = true then (if x11 = 2 then (if bt403.2.2.2.2.2.2.2.2.2.2 = 3 then (if bt415.2.2.2.2.2.2.2.2.2.2 = 4 then (some (bt430.2.2.2.2.2.2.2.2.2.2 == 7)) else (some false)) else (some false)) else (some false)) else (some false))) else (none)) else (none)) else (none))) else (none)) else (none)) else (none)))) else (none)) else (none)) else (if 1 ≤ (x6.size : Int) then (if 1 + (x6.extract 1 x6.size).size ≤ 9223372036854775807 then ((ip4_Parse.f ((⟨#[101]⟩ : ByteArray) ++ (x6.extract 1 x6.size))).bind fun bt442 => ((ip4_Parse.f ((⟨#[68]⟩ : ByteArray) ++ (x6.extract 1 x6.size))).bind fun bt454 => (if 0 ≤ 10 then (if 10 ≤ (x6.size : Int) then (if 10 < (x6.size : Int) then ((some (([Go.bits .xor .u8 (bt x6 10) 1] : List Int) : List Int)).bind fun y466 => (if (x6.extract 0 10).size + (strOfNums y466).size ≤ 9223372036854775807 then (if 11 ≤ (x6.size : Int) then (if ((x6.extract 0 10) ++ (strOfNums y466)).size + (x6.extract 11 x6.size).size ≤ 9223372036854775807 then ((ip4_Parse.f (((x6.extract 0 10) ++ (strOfNums y466)) ++ (x6.extract 11 x6.size))).bind fun bt469 => (if x5 = true then (if x11 = x12 then (if bt442.2.2.2.2.2.2.2.2.2.2 = 3 then (if bt454.2.2.2.2.2.2.2.2.2.2 = 4 then (some (bt469.2.2.2.2.2.2.2.2.2.2 == 7)) else (some false)) else (some false)) else (some false)) else (some false))) else (none)) else (none)) else (none))) else (none)) else (none)) else (none)))) else (none)) else (none))
end
def weighbridgelaw04_Ip4Order.f (k : Nat) (a0 : ByteArray) (a1 : Int) : Option (Bool) := (weighbridgelaw04_examples.f).bind fun t388 => (if t388 = true then (if 0 ≤ (mn (a0.size : Int) 200) then (if (mn (a0.size : Int) 200) ≤ (a0.size : Int) then ((ip4_Build.f 0 0 0 0 9 6 1 2 (⟨#[]⟩ : ByteArray) (a0.extract 0 ((mn (a0.size : Int) 200) : Int).toNat)).bind fun bt389 => (if bt389.2 = 0 then (weighbridgelaw04_Ip4Order.j0 k a1 t388 bt389.1 (decide ((bt389.1.size : Int) < 20))) else (weighbridgelaw04_Ip4Order.j0 k a1 t388 bt389.1 true))) else (none)) else (none)) else (some false))
theorem weighbridgelaw04_Ip4Order.mono_l : ∀ k, (∀ y0 y1 y2 y3, LeO (weighbridgelaw04_Ip4Order.j0 k y0 y1 y2 y3) (weighbridgelaw04_Ip4Order.j0 (k + 1) y0 y1 y2 y3)) ∧ (∀ y0 y1 y2 y3 y4, LeO (weighbridgelaw04_Ip4Order.j1 k y0 y1 y2 y3 y4) (weighbridgelaw04_Ip4Order.j1 (k + 1) y0 y1 y2 y3 y4))
 | 0 => ⟨fun _ _ _ _ r h => by simp [weighbridgelaw04_Ip4Order.j0] at h, fun _ _ _ _ _ r h => by simp [weighbridgelaw04_Ip4Order.j1] at h⟩
 | k + 1 => by
  obtain ⟨ih0, ih1⟩ := weighbridgelaw04_Ip4Order.mono_l k
  refine ⟨?_, ?_⟩
  ·intro y0 y1 y2 y3
   unfold weighbridgelaw04_Ip4Order.j0
   repeat' first
   | (with_reducible exact ih0 _ _ _ _)
   | (with_reducible exact ih1 _ _ _ _ _)
   | (with_reducible exact LeO.refl _)
   | (with_reducible exact LeO.none _)
   | (with_reducible refine LeO.ite ?_ ?_)
   | (with_reducible refine LeO.bind ?_ (fun _ => ?_))
   | exact ih0 _ _ _ _
   | exact ih1 _ _ _ _ _
   | exact LeO.none _
   | refine LeO.ite ?_ ?_
   | refine LeO.bind ?_ (fun _ => ?_)
  ·intro y0 y1 y2 y3 y4
   unfold weighbridgelaw04_Ip4Order.j1
   repeat' first
   | (with_reducible exact ih0 _ _ _ _)
   | (with_reducible exact ih1 _ _ _ _ _)
   | (with_reducible exact LeO.refl _)
   | (with_reducible exact LeO.none _)
   | (with_reducible refine LeO.ite ?_ ?_)
   | (with_reducible refine LeO.bind ?_ (fun _ => ?_))
   | exact ih0 _ _ _ _
   | exact ih1 _ _ _ _ _
   | exact LeO.none _
   | refine LeO.ite ?_ ?_
   | refine LeO.bind ?_ (fun _ => ?_)
theorem weighbridgelaw04_Ip4Order.mono : ∀ a0 a1 k, LeO (weighbridgelaw04_Ip4Order.f k a0 a1) (weighbridgelaw04_Ip4Order.f (k + 1) a0 a1) := by
 intro a0 a1 k
 obtain ⟨ih0, ih1⟩ := weighbridgelaw04_Ip4Order.mono_l k
 unfold weighbridgelaw04_Ip4Order.f
 repeat' first
   | (with_reducible exact ih0 _ _ _ _)
   | (with_reducible exact ih1 _ _ _ _ _)
   | (with_reducible exact LeO.refl _)
   | (with_reducible exact LeO.none _)
   | (with_reducible refine LeO.ite ?_ ?_)
   | (with_reducible refine LeO.bind ?_ (fun _ => ?_))
   | exact ih0 _ _ _ _
   | exact ih1 _ _ _ _ _
   | exact LeO.none _
   | refine LeO.ite ?_ ?_
   | refine LeO.bind ?_ (fun _ => ?_)
def weighbridgelaw04_Ip4Order.T17 : Bool × List (List Nat × List Nat) := (true, [([], []), ([0], [0]), ([], []), ([2], [2]), ([3], [3]), ([4], [4]), ([5], [5]), ([1, 6], [1, 6]), ([], []), ([8], [8]), ([7, 9], [7, 9]), ([10], [10]), ([11], [11]), ([12], [12]), ([12], [12]), ([12], [12]), ([], []), ([16, 13, 11, 0, 1, 2, 3, 4, 5, 6, 7, 8, 9, 10, 11, 12, 13, 16], [13, 16]), ([14, 17, 0, 1, 2, 3, 4, 5, 6, 7, 8, 9, 10, 11, 12, 13, 14, 16, 17], [14]), ([15, 18, 0, 1, 2, 3, 4, 5, 6, 7, 8, 9, 10, 11, 12, 13, 14, 15, 16, 17, 18], [15])])
def weighbridgelaw04_Ip4Order.B17 : List Nat := [0, 1, 0, 4, 12, 28, 60, 127, 0, 256, 1023, 2047, 4095, 8191, 8191, 8191, 0, 81919, 229375, 524287]
theorem weighbridgelaw04_Ip4Order.tab17 : rtab .any (opsOf Try.f8 17) = weighbridgelaw04_Ip4Order.T17 := by kernel_rfl
theorem weighbridgelaw04_Ip4Order.bits17 : waitsOk weighbridgelaw04_Ip4Order.T17.2 weighbridgelaw04_Ip4Order.B17 = true := by kernel_rfl
set_option maxHeartbeats 8000000 in
set_option maxRecDepth 100000 in
theorem weighbridgelaw04_Ip4Order.calls (k : Nat) (a0 : ByteArray) (a1 : Int) (r : Bool) (w : World) (h : weighbridgelaw04_Ip4Order.f k a0 a1 = some r) (hr_ : r = true) :
  Calls Try.prog 8 #[.string a0, .int .u8 a1] w fun e w' => e = .returned (.bool r) ∧ Below w.heap.size w w' := by
 have hu24 := Try.underlying24
 have HB := Aside0.mk (Below.refl w.heap.size w)
 have H : ((weighbridgelaw04_examples.f).bind fun t388 => (if t388 = true then (if 0 ≤ (mn (a0.size : Int) 200) then (if (mn (a0.size : Int) 200) ≤ (a0.size : Int) then ((ip4_Build.f 0 0 0 0 9 6 1 2 (⟨#[]⟩ : ByteArray) (a0.extract 0 ((mn (a0.size : Int) 200) : Int).toNat)).bind fun bt389 => (if bt389.2 = 0 then (weighbridgelaw04_Ip4Order.j0 k a1 t388 bt389.1 (decide ((bt389.1.size : Int) < 20))) else (weighbridgelaw04_Ip4Order.j0 k a1 t388 bt389.1 true))) else (none)) else (none)) else (some false))) = some r := h
 clear h
 replace H := Option.bind_eq_some_iff.mp H
 obtain ⟨t388, A30, H⟩ := H
 (try set_option simprocs false in dsimp only at H)
 have A3 := Aside0.mk A30
 clear A30
 by_cases c4 : t388 = true
 rotate_left
 ·replace c4 := Bool.eq_false_iff.mpr c4
  subst c4
  have H1 : (some false) = some r := by rw [if_neg (show ¬ (false = true) by decide)] at H; exact H
  clear H
  have H := H1
  clear H1
  exact absurd ((Option.some.inj H).trans hr_) (by decide)
 subst c4
 first | rw [if_pos rfl] at H | rw [if_pos trivial] at H
 obtain ⟨ji5, hji5⟩ : ∃ j_ : Int, (mn (a0.size : Int) 200) = j_ := ⟨_, rfl⟩
 replace H : (if 0 ≤ (ji5) then (if (ji5) ≤ (a0.size : Int) then ((ip4_Build.f 0 0 0 0 9 6 1 2 (⟨#[]⟩ : ByteArray) (a0.extract 0 ((ji5) : Int).toNat)).bind fun bt389 => (if bt389.2 = 0 then (weighbridgelaw04_Ip4Order.j0 k a1 true bt389.1 (decide ((bt389.1.size : Int) < 20))) else (weighbridgelaw04_Ip4Order.j0 k a1 true bt389.1 true))) else (none)) else (none)) = some r := by first | (rw [hji5] at H; exact H) | (simp only [hji5] at H ⊢; exact H)
 (try rw [hji5] at A3)
 (try (have hji5h : ji5 ≤ 200 := by (rw [← hji5]; unfold mn; (repeat' split) <;> omega)))
 (try (have hji5g : ji5 ≤ 64 := by omega))
 (try (have hji5l : 0 ≤ ji5 := by (rw [← hji5]; unfold mn; (repeat' split) <;> omega)))
 (try (have hji5m : 0 ≤ ji5 := by omega))
 have hji5_ : (if 200 < (a0.size : Int) then 200 else (a0.size : Int)) = ji5 := hji5
 by_cases c6 : 0 ≤ (ji5)
 rotate_left
 ·rw [if_neg c6] at H
  exact absurd H (by simp)
 rw [if_pos c6] at H
 have c6b0 := eq_true c6
 have c6b1 : decide (0 ≤ (ji5)) = true := decide_eq_true c6
 clear c6
 by_cases c7 : (ji5) ≤ (a0.size : Int)
 rotate_left
 ·rw [if_neg c7] at H
  exact absurd H (by simp)
 rw [if_pos c7] at H
 have c7b0 := eq_true c7
 have c7b1 : decide ((ji5) ≤ (a0.size : Int)) = true := decide_eq_true c7
 clear c7
 replace H := Option.bind_eq_some_iff.mp H
 obtain ⟨⟨t389, t390⟩, A80, H⟩ := H
 (try set_option simprocs false in dsimp only at H)
 have A8 := Aside0.mk A80
 clear A80
 have HC9 := Aside0.mk H
 clear H
 go_enter Try.func8, Try.ntmps8
 go_upto_region 6 with (first | ((with_reducible refine gate_callee (f := 10) rfl ?_); refine goesL_ (some 22) rfl rfl Try.func10 (by kernel_rfl) rfl #[] rfl AG ?_; (with_reducible refine (weighbridgelaw04_examples.calls  true _ A3.out).mono ?_); rintro e w10 ⟨rfl, hb⟩; refine ⟨_, rfl, ?_⟩; have n0_ := Aside0.mk (below_step (BW HB) hb); clear HB; have HB := n0_; clear n0_; (try clear hb); (try clear hb2); (try clear hk); (try clear hi)) | ((with_reducible refine gate_callee (f := 11) rfl ?_); refine goesL_ (some 33) rfl rfl Try.func11 (by kernel_rfl) rfl #[.agg #[.int .i64 0, .int .i64 0, .int .i64 0, .int .i64 0, .int .i64 9, .int .i64 6, .int .u32 1, .int .u32 2, .string (⟨#[]⟩ : ByteArray)], .string (a0.extract 0 ((ji5) : Int).toNat)] rfl (by (try simp only [List.map_toArray, List.map_cons, List.map_nil]); first | done | (simp only [hji5]; rfl) | rfl | (simp only [List.length_drop, List.length_take]; rfl)) ?_; (with_reducible refine (ip4_Build.calls 0 0 0 0 9 6 1 2 (⟨#[]⟩ : ByteArray) (a0.extract 0 ((ji5) : Int).toNat) t389 t390 _ A8.out).mono ?_); rintro e w11 ⟨rfl, hb⟩; refine ⟨_, rfl, ?_⟩; have n0_ := Aside0.mk (below_step (BW HB) hb); clear HB; have HB := n0_; clear n0_; (try clear hb); (try clear hb2); (try clear hk); (try clear hi)))
 (try simp only [Act.put, List.setIfInBounds_toArray, List.set_cons_zero, List.set_cons_succ])
 go_cut [42] (fun v42 wc => ∃ (kq : Nat) (x42_8 : Bool), v42 = .bool x42_8 ∧ Aside0 (weighbridgelaw04_Ip4Order.j0 kq a1 true t389 x42_8 = some r) ∧ Aside0 (kq ≤ k) ∧ Aside0 (Below w.heap.size w wc))
 case first =>
  have H := HC9.out
  clear HC9
  by_cases c12 : t390 = 0
  ·rw [if_pos c12] at H
   have c12b0 : (t390 == 0) = true := beq_iff_eq.mpr c12
   have c12b1 : (t390 != 0) = false := bne_eq_false_iff_eq.mpr c12
   clear c12
   (first | rw [c12b0] | (simp only [i64_w, i32_w]; rw [c12b0]) | skip)
   have H' := Aside0.mk H
   clear H
   go_wp2
   go_meet
   case rel => exact ⟨_, (decide ((t389.size : Int) < 20)), (by first | rfl | (simp; done) | (congr 2; simp only [ByteArray.size_extract, ByteArray.size_append]; (try have := of_eq_true c6b0); (try have := of_eq_true c7b0); (try unfold wrap64); omega) | (simp only [ByteArray.size_extract, ByteArray.size_append, Nat.sub_zero]; done) | (congr 1; simp only [ByteArray.size_extract, ByteArray.size_append, Nat.sub_zero]; (try have := of_eq_true c6b0); (try have := of_eq_true c7b0); omega) | (simp [*]; done)), H', ⟨by first | omega | exact Nat.le_refl _⟩, ⟨BW HB⟩⟩
  ·rw [if_neg c12] at H
   have c12b0 : (t390 == 0) = false := beq_eq_false_iff_ne.mpr c12
   have c12b1 : (t390 != 0) = true := bne_iff_ne.mpr c12
   (first | rw [c12b0] | (simp only [i64_w, i32_w]; rw [c12b0]) | skip)
   have H' := Aside0.mk H
   clear H
   go_wp2
   go_meet
   case rel => exact ⟨_, (true), (by first | rfl | (simp; done) | (congr 2; simp only [ByteArray.size_extract, ByteArray.size_append]; (try have := of_eq_true c6b0); (try have := of_eq_true c7b0); (try unfold wrap64); omega) | (simp only [ByteArray.size_extract, ByteArray.size_append, Nat.sub_zero]; done) | (congr 1; simp only [ByteArray.size_extract, ByteArray.size_append, Nat.sub_zero]; (try have := of_eq_true c6b0); (try have := of_eq_true c7b0); omega) | (simp [*]; done)), H', ⟨by first | omega | exact Nat.le_refl _⟩, ⟨BW HB⟩⟩
 case rest =>
  clear HC9
  try clear c1
  try clear p2
  try clear c4
  try clear p4
  try clear c6
  try clear c6b0
  try clear c6b1
  try clear c7
  try clear c7b0
  try clear c7b1
  try clear c8
  try clear c10
  try clear c11
  try clear c12
  try clear c12b0
  try clear c12b1
  obtain ⟨kq, x42_8, rfl, HA, HJ8, HB⟩ := hcut
  cases kq with
  | zero => exact absurd HA.out (by simp [weighbridgelaw04_Ip4Order.j0])
  | succ kj8 =>
   have H := HA.out
   clear HA
   simp only [weighbridgelaw04_Ip4Order.j0] at H
   by_cases c13 : x42_8 = true
   ·subst c13
    first | rw [if_pos rfl] at H | rw [if_pos trivial] at H
    exact absurd ((Option.some.inj H).trans hr_) (by decide)
   ·replace c13 := Bool.eq_false_iff.mpr c13
    subst c13
    have H1 : (if (wrap64 ((t389.size : Int) + 1)) = 0 then (none) else (if 0 ≤ (wrap64 ((t389.size : Int) - (Int.tmod (wrap64 (a1)) (wrap64 ((t389.size : Int) + 1))))) then (if (wrap64 ((t389.size : Int) - (Int.tmod (wrap64 (a1)) (wrap64 ((t389.size : Int) + 1))))) ≤ (t389.size : Int) then ((ip4_Parse.f (t389.extract 0 ((wrap64 ((t389.size : Int) - (Int.tmod (wrap64 (a1)) (wrap64 ((t389.size : Int) + 1))))) : Int).toNat)).bind fun bt391 => (if (Int.tmod (wrap64 (a1)) (wrap64 ((t389.size : Int) + 1))) > 0 then (weighbridgelaw04_Ip4Order.j1 kj8 true t389 (Int.tmod (wrap64 (a1)) (wrap64 ((t389.size : Int) + 1))) bt391.2.2.2.2.2.2.2.2.2.2 5) else (weighbridgelaw04_Ip4Order.j1 kj8 true t389 (Int.tmod (wrap64 (a1)) (wrap64 ((t389.size : Int) + 1))) bt391.2.2.2.2.2.2.2.2.2.2 0))) else (none)) else (none))) = some r := by rw [if_neg (show ¬ (false = true) by decide)] at H; exact H
    clear H
    have H := H1
    clear H1
    by_cases c14 : (wrap64 ((t389.size : Int) + 1)) = 0
    ·rw [if_pos c14] at H
     exact absurd H (by simp)
    ·rw [if_neg c14] at H
     have c14b0 : ((wrap64 ((t389.size : Int) + 1)) == 0) = false := beq_eq_false_iff_ne.mpr c14
     have c14b1 : ((wrap64 ((t389.size : Int) + 1)) != 0) = true := bne_iff_ne.mpr c14
     obtain ⟨ji15, hji15⟩ : ∃ j_ : Int, (wrap64 ((t389.size : Int) - (Int.tmod (wrap64 (a1)) (wrap64 ((t389.size : Int) + 1))))) = j_ := ⟨_, rfl⟩
     replace H : (if 0 ≤ (ji15) then (if (ji15) ≤ (t389.size : Int) then ((ip4_Parse.f (t389.extract 0 ((ji15) : Int).toNat)).bind fun bt391 => (if (Int.tmod (wrap64 (a1)) (wrap64 ((t389.size : Int) + 1))) > 0 then (weighbridgelaw04_Ip4Order.j1 kj8 true t389 (Int.tmod (wrap64 (a1)) (wrap64 ((t389.size : Int) + 1))) bt391.2.2.2.2.2.2.2.2.2.2 5) else (weighbridgelaw04_Ip4Order.j1 kj8 true t389 (Int.tmod (wrap64 (a1)) (wrap64 ((t389.size : Int) + 1))) bt391.2.2.2.2.2.2.2.2.2.2 0))) else (none)) else (none)) = some r := by first | (rw [hji15] at H; exact H) | (simp only [hji15] at H ⊢; exact H)
     have hji15w : (IntKind.i64.wrap ((t389.size : Int) - (Int.tmod (wrap64 (a1)) (wrap64 ((t389.size : Int) + 1))))) = ji15 := (i64_w _).trans hji15
     by_cases c16 : 0 ≤ (ji15)
     ·rw [if_pos c16] at H
      have c16b0 := eq_true c16
      have c16b1 : decide (0 ≤ (ji15)) = true := decide_eq_true c16
      clear c16
      by_cases c17 : (ji15) ≤ (t389.size : Int)
      ·rw [if_pos c17] at H
       have c17b0 := eq_true c17
       have c17b1 : decide ((ji15) ≤ (t389.size : Int)) = true := decide_eq_true c17
       clear c17
       replace H := Option.bind_eq_some_iff.mp H
       obtain ⟨⟨t391, t392, t393, t394, t395, t396, t397, t398, t399, t400, t401⟩, A180, H⟩ := H
       (try set_option simprocs false in dsimp only at H)
       have A18 := Aside0.mk A180
       clear A180
       have HC19 := Aside0.mk H
       clear H
       go_upto_if 61 with (first | ((with_reducible refine gate_callee (f := 18) rfl ?_); refine goesL_ (some 56) rfl rfl Try.func18 (by kernel_rfl) rfl #[.string (t389.extract 0 ((ji15) : Int).toNat)] rfl (by (try simp only [List.map_toArray, List.map_cons, List.map_nil]); first | done | (simp only [hji15]; rfl) | rfl | (simp only [List.length_drop, List.length_take]; rfl)) ?_; (with_reducible refine (ip4_Parse.calls (t389.extract 0 ((ji15) : Int).toNat) t391 t392 t393 t394 t395 t396 t397 t398 t399 t400 t401 _ A18.out).mono ?_); rintro e w20 ⟨rfl, hb⟩; refine ⟨_, rfl, ?_⟩; have n0_ := Aside0.mk (below_step (BW HB) hb); clear HB; have HB := n0_; clear n0_; (try clear hb); (try clear hb2); (try clear hk); (try clear hi)) | ((with_reducible refine gate_dst (N := 9) rfl ?_); (try (refine gate_guard (by rfl) ?_; dsimp only)); refine box_event ?hg (N := 9) ?hd (cs := #[.int .i64 0, .int .i64 0, .int .i64 0, .int .i64 0, .int .i64 0, .int .i64 0, .int .u32 0, .int .u32 0, .string (⟨#[]⟩ : ByteArray)]) (t := 24) ?hr ?_; (case hd => rfl); (case hg => rfl); (case hr => first | (go_simp; done) | (go_simp; rfl)); intro gb402 hg w21 hbox hb; have n0_ := Aside0.mk (below_step (BW HB) hb); have n1_ := Aside0.mk (hbox); have n2_ := Aside0.mk ((by rw [hg]; exact (below_size (BW HB)) : w.heap.size ≤ gb402)); have n3_ := Aside0.mk ((by rw [hg]; exact (below_size (BW HB)) : w.heap.size ≤ gb402)); clear HB; have HB := n0_; have BK402 := n1_; have GW402 := n2_; have GE402 := n3_; clear n0_ n1_ n2_ n3_; clear hb hbox hg; obtain ⟨hcz22_0, hcz22_1, hcz22_2, hcz22_3, hcz22_4, hcz22_5, hcz22_6, hcz22_7, hcz22_8, hfz22_0, hfz22_1, hfz22_2, hfz22_3, hfz22_4, hfz22_5, hfz22_6, hfz22_7, hfz22_8⟩ := blk9 BK402.out))
       (try simp only [Act.put, List.setIfInBounds_toArray, List.set_cons_zero, List.set_cons_succ])
       go_cut [12] (fun v12 wc => ∃ (kq : Nat) (x12_18 : Int), v12 = .int .i64 x12_18 ∧ Aside0 (weighbridgelaw04_Ip4Order.j1 kq true t389 (Int.tmod (wrap64 (a1)) (wrap64 ((t389.size : Int) + 1))) t401 x12_18 = some r) ∧ Aside0 (kq ≤ kj8) ∧ Aside0 (wc.heap[gb402]? = some (.cells #[.int .i64 t391, .int .i64 t392, .int .i64 t393, .int .i64 t394, .int .i64 t395, .int .i64 t396, .int .u32 t397, .int .u32 t398, .string t399] 24 (0, 0))) ∧ Aside0 (Below w.heap.size w wc))
       case first =>
        have H := HC19.out
        clear HC19
        by_cases c23 : (Int.tmod (wrap64 (a1)) (wrap64 ((t389.size : Int) + 1))) > 0
        ·rw [if_pos c23] at H
         have c23b0 : decide (0 < (Int.tmod (wrap64 (a1)) (wrap64 ((t389.size : Int) + 1)))) = true := decide_eq_true c23
         clear c23
         (first | rw [c23b0] | (simp only [i64_w, i32_w]; rw [c23b0]) | skip)
         have H' := Aside0.mk H
         clear H
         go_wp2
         go_meet
         case rel => exact ⟨_, (5), (by first | rfl | (simp; done) | (congr 2; simp only [ByteArray.size_extract, ByteArray.size_append]; (try have := of_eq_true c6b0); (try have := of_eq_true c7b0); (try have := of_eq_true c16b0); (try have := of_eq_true c17b0); have : (⟨#[]⟩ : ByteArray).size = 0 := rfl; (try unfold wrap64); omega) | (simp only [ByteArray.size_extract, ByteArray.size_append, Nat.sub_zero]; done) | (congr 1; simp only [ByteArray.size_extract, ByteArray.size_append, Nat.sub_zero]; (try have := of_eq_true c6b0); (try have := of_eq_true c7b0); (try have := of_eq_true c16b0); (try have := of_eq_true c17b0); have : (⟨#[]⟩ : ByteArray).size = 0 := rfl; omega) | (simp [*]; done)), H', ⟨by have := HJ8.out; first | omega | exact Nat.le_refl _⟩, ⟨by (with_reducible repeat (first | refine blk_drewN ?_ _ | refine blk_drew ?_ | refine blk_alloc ?_ _)); refine blk_put (cs := #[.int .i64 t391, .int .i64 t392, .int .i64 t393, .int .i64 t394, .int .i64 t395, .int .i64 t396, .int .u32 t397, .int .u32 t398, .string (⟨#[]⟩ : ByteArray)]) ?_ 8 _ rfl; (with_reducible repeat (first | refine blk_drewN ?_ _ | refine blk_drew ?_ | refine blk_alloc ?_ _)); refine blk_put (cs := #[.int .i64 t391, .int .i64 t392, .int .i64 t393, .int .i64 t394, .int .i64 t395, .int .i64 t396, .int .u32 t397, .int .u32 0, .string (⟨#[]⟩ : ByteArray)]) ?_ 7 _ rfl; (with_reducible repeat (first | refine blk_drewN ?_ _ | refine blk_drew ?_ | refine blk_alloc ?_ _)); refine blk_put (cs := #[.int .i64 t391, .int .i64 t392, .int .i64 t393, .int .i64 t394, .int .i64 t395, .int .i64 t396, .int .u32 0, .int .u32 0, .string (⟨#[]⟩ : ByteArray)]) ?_ 6 _ rfl; (with_reducible repeat (first | refine blk_drewN ?_ _ | refine blk_drew ?_ | refine blk_alloc ?_ _)); refine blk_put (cs := #[.int .i64 t391, .int .i64 t392, .int .i64 t393, .int .i64 t394, .int .i64 t395, .int .i64 0, .int .u32 0, .int .u32 0, .string (⟨#[]⟩ : ByteArray)]) ?_ 5 _ rfl; (with_reducible repeat (first | refine blk_drewN ?_ _ | refine blk_drew ?_ | refine blk_alloc ?_ _)); refine blk_put (cs := #[.int .i64 t391, .int .i64 t392, .int .i64 t393, .int .i64 t394, .int .i64 0, .int .i64 0, .int .u32 0, .int .u32 0, .string (⟨#[]⟩ : ByteArray)]) ?_ 4 _ rfl; (with_reducible repeat (first | refine blk_drewN ?_ _ | refine blk_drew ?_ | refine blk_alloc ?_ _)); refine blk_put (cs := #[.int .i64 t391, .int .i64 t392, .int .i64 t393, .int .i64 0, .int .i64 0, .int .i64 0, .int .u32 0, .int .u32 0, .string (⟨#[]⟩ : ByteArray)]) ?_ 3 _ rfl; (with_reducible repeat (first | refine blk_drewN ?_ _ | refine blk_drew ?_ | refine blk_alloc ?_ _)); refine blk_put (cs := #[.int .i64 t391, .int .i64 t392, .int .i64 0, .int .i64 0, .int .i64 0, .int .i64 0, .int .u32 0, .int .u32 0, .string (⟨#[]⟩ : ByteArray)]) ?_ 2 _ rfl; (with_reducible repeat (first | refine blk_drewN ?_ _ | refine blk_drew ?_ | refine blk_alloc ?_ _)); refine blk_put (cs := #[.int .i64 t391, .int .i64 0, .int .i64 0, .int .i64 0, .int .i64 0, .int .i64 0, .int .u32 0, .int .u32 0, .string (⟨#[]⟩ : ByteArray)]) ?_ 1 _ rfl; (with_reducible repeat (first | refine blk_drewN ?_ _ | refine blk_drew ?_ | refine blk_alloc ?_ _)); refine blk_put (cs := #[.int .i64 0, .int .i64 0, .int .i64 0, .int .i64 0, .int .i64 0, .int .i64 0, .int .u32 0, .int .u32 0, .string (⟨#[]⟩ : ByteArray)]) ?_ 0 _ rfl; (with_reducible repeat (first | refine blk_drewN ?_ _ | refine blk_drew ?_ | refine blk_alloc ?_ _)); exact BK402.out⟩, ⟨BW HB⟩⟩
        ·rw [if_neg c23] at H
         have c23b0 : decide (0 < (Int.tmod (wrap64 (a1)) (wrap64 ((t389.size : Int) + 1)))) = false := decide_eq_false c23
         clear c23
         (first | rw [c23b0] | (simp only [i64_w, i32_w]; rw [c23b0]) | skip)
         have H' := Aside0.mk H
         clear H
         go_wp2
         go_meet
         case rel => exact ⟨_, (0), (by first | rfl | (simp; done) | (congr 2; simp only [ByteArray.size_extract, ByteArray.size_append]; (try have := of_eq_true c6b0); (try have := of_eq_true c7b0); (try have := of_eq_true c16b0); (try have := of_eq_true c17b0); have : (⟨#[]⟩ : ByteArray).size = 0 := rfl; (try unfold wrap64); omega) | (simp only [ByteArray.size_extract, ByteArray.size_append, Nat.sub_zero]; done) | (congr 1; simp only [ByteArray.size_extract, ByteArray.size_append, Nat.sub_zero]; (try have := of_eq_true c6b0); (try have := of_eq_true c7b0); (try have := of_eq_true c16b0); (try have := of_eq_true c17b0); have : (⟨#[]⟩ : ByteArray).size = 0 := rfl; omega) | (simp [*]; done)), H', ⟨by have := HJ8.out; first | omega | exact Nat.le_refl _⟩, ⟨by (with_reducible repeat (first | refine blk_drewN ?_ _ | refine blk_drew ?_ | refine blk_alloc ?_ _)); refine blk_put (cs := #[.int .i64 t391, .int .i64 t392, .int .i64 t393, .int .i64 t394, .int .i64 t395, .int .i64 t396, .int .u32 t397, .int .u32 t398, .string (⟨#[]⟩ : ByteArray)]) ?_ 8 _ rfl; (with_reducible repeat (first | refine blk_drewN ?_ _ | refine blk_drew ?_ | refine blk_alloc ?_ _)); refine blk_put (cs := #[.int .i64 t391, .int .i64 t392, .int .i64 t393, .int .i64 t394, .int .i64 t395, .int .i64 t396, .int .u32 t397, .int .u32 0, .string (⟨#[]⟩ : ByteArray)]) ?_ 7 _ rfl; (with_reducible repeat (first | refine blk_drewN ?_ _ | refine blk_drew ?_ | refine blk_alloc ?_ _)); refine blk_put (cs := #[.int .i64 t391, .int .i64 t392, .int .i64 t393, .int .i64 t394, .int .i64 t395, .int .i64 t396, .int .u32 0, .int .u32 0, .string (⟨#[]⟩ : ByteArray)]) ?_ 6 _ rfl; (with_reducible repeat (first | refine blk_drewN ?_ _ | refine blk_drew ?_ | refine blk_alloc ?_ _)); refine blk_put (cs := #[.int .i64 t391, .int .i64 t392, .int .i64 t393, .int .i64 t394, .int .i64 t395, .int .i64 0, .int .u32 0, .int .u32 0, .string (⟨#[]⟩ : ByteArray)]) ?_ 5 _ rfl; (with_reducible repeat (first | refine blk_drewN ?_ _ | refine blk_drew ?_ | refine blk_alloc ?_ _)); refine blk_put (cs := #[.int .i64 t391, .int .i64 t392, .int .i64 t393, .int .i64 t394, .int .i64 0, .int .i64 0, .int .u32 0, .int .u32 0, .string (⟨#[]⟩ : ByteArray)]) ?_ 4 _ rfl; (with_reducible repeat (first | refine blk_drewN ?_ _ | refine blk_drew ?_ | refine blk_alloc ?_ _)); refine blk_put (cs := #[.int .i64 t391, .int .i64 t392, .int .i64 t393, .int .i64 0, .int .i64 0, .int .i64 0, .int .u32 0, .int .u32 0, .string (⟨#[]⟩ : ByteArray)]) ?_ 3 _ rfl; (with_reducible repeat (first | refine blk_drewN ?_ _ | refine blk_drew ?_ | refine blk_alloc ?_ _)); refine blk_put (cs := #[.int .i64 t391, .int .i64 t392, .int .i64 0, .int .i64 0, .int .i64 0, .int .i64 0, .int .u32 0, .int .u32 0, .string (⟨#[]⟩ : ByteArray)]) ?_ 2 _ rfl; (with_reducible repeat (first | refine blk_drewN ?_ _ | refine blk_drew ?_ | refine blk_alloc ?_ _)); refine blk_put (cs := #[.int .i64 t391, .int .i64 0, .int .i64 0, .int .i64 0, .int .i64 0, .int .i64 0, .int .u32 0, .int .u32 0, .string (⟨#[]⟩ : ByteArray)]) ?_ 1 _ rfl; (with_reducible repeat (first | refine blk_drewN ?_ _ | refine blk_drew ?_ | refine blk_alloc ?_ _)); refine blk_put (cs := #[.int .i64 0, .int .i64 0, .int .i64 0, .int .i64 0, .int .i64 0, .int .i64 0, .int .u32 0, .int .u32 0, .string (⟨#[]⟩ : ByteArray)]) ?_ 0 _ rfl; (with_reducible repeat (first | refine blk_drewN ?_ _ | refine blk_drew ?_ | refine blk_alloc ?_ _)); exact BK402.out⟩, ⟨BW HB⟩⟩
       case rest =>
        clear HC19
        try clear c1
        try clear c2
        try clear p2
        try clear c4
        try clear p4
        try clear c6
        try clear c6b0
        try clear c6b1
        try clear p6
        try clear c7
        try clear c7b0
        try clear c7b1
        try clear c8
        try clear c10
        try clear c11
        try clear c12
        try clear c12b0
        try clear c12b1
        try clear c13
        try clear c14
        try clear c14b0
        try clear c14b1
        try clear c16
        try clear c16b0
        try clear c16b1
        try clear c17
        try clear c17b0
        try clear c17b1
        try clear c18
        try clear c23
        try clear c23b0
        try clear hcz22_0
        try clear hcz22_1
        try clear hcz22_2
        try clear hcz22_3
        try clear hcz22_4
        try clear hcz22_5
        try clear hcz22_6
        try clear hcz22_7
        try clear hcz22_8
        try clear hfz22_0
        try clear hfz22_1
        try clear hfz22_2
        try clear hfz22_3
        try clear hfz22_4
        try clear hfz22_5
        try clear hfz22_6
        try clear hfz22_7
        try clear hfz22_8
        try clear p2
        try clear p4
        obtain ⟨kq, x12_18, rfl, HA, HJ18, BK402, HB⟩ := hcut
        cases kq with
        | zero => exact absurd HA.out (by simp [weighbridgelaw04_Ip4Order.j1])
        | succ kj18 =>
         have H := HA.out
         clear HA
         simp only [weighbridgelaw04_Ip4Order.j1] at H
         by_cases c24 : (wrap64 ((t389.size : Int) - (Int.tmod (wrap64 (a1)) (wrap64 ((t389.size : Int) + 1))))) < 20
         ·rw [if_pos c24] at H
          have c24b0 : decide ((wrap64 ((t389.size : Int) - (Int.tmod (wrap64 (a1)) (wrap64 ((t389.size : Int) + 1))))) < 20) = true := decide_eq_true c24
          (try rw [hji15] at c24b0)
          clear c24
          by_cases c25 : 1 ≤ (t389.size : Int)
          ·rw [if_pos c25] at H
           have c25b0 := eq_true c25
           have c25b1 : decide (1 ≤ (t389.size : Int)) = true := decide_eq_true c25
           clear c25
           by_cases c26 : 1 + (t389.extract 1 t389.size).size ≤ 9223372036854775807
           ·rw [if_pos c26] at H
            have c26b0 := eq_true c26
            have c26b1 : decide (1 + (t389.extract 1 t389.size).size ≤ 9223372036854775807) = true := decide_eq_true c26
            try have c26b2 : (9223372036854775807 < 1 + (t389.extract 1 t389.size).size) = False := eq_false (Nat.not_lt.2 c26)
            (try (have c26r := c26; (repeat rw [ByteArray.size_append] at c26r); (repeat rw [ByteArray.size_extract] at c26r); (repeat rw [Nat.sub_zero] at c26r); (repeat rw [Nat.min_self] at c26r); have c26rt := eq_true c26r; have c26ru := eq_false (Nat.not_lt.mpr c26r); clear c26r))
            (try (have c26s := c26; simp [c6b0, c7b0, c16b0, c17b0, c25b0] at c26s; have c26t := eq_true c26s; have c26u := eq_false (Nat.not_lt.mpr c26s); clear c26s))
            replace H := Option.bind_eq_some_iff.mp H
            obtain ⟨⟨t403, t404, t405, t406, t407, t408, t409, t410, t411, t412, t413⟩, A270, H⟩ := H
            (try set_option simprocs false in dsimp only at H)
            have A27 := Aside0.mk A270
            clear A270
            have c28b0 := eq_true (of_decide_eq_true (by first | (with_reducible assumption) | assumption) : 1 ≤ (t389.size : Int))
            replace H := Option.bind_eq_some_iff.mp H
            obtain ⟨⟨t415, t416, t417, t418, t419, t420, t421, t422, t423, t424, t425⟩, A290, H⟩ := H
            (try set_option simprocs false in dsimp only at H)
            have A29 := Aside0.mk A290
            clear A290
            by_cases c30 : 0 ≤ 10
            ·rw [if_pos c30] at H
             have c30b0 := eq_true c30
             have c30b1 : decide (0 ≤ 10) = true := decide_eq_true c30
             clear c30
             by_cases c31 : 10 ≤ (t389.size : Int)
             ·rw [if_pos c31] at H
              have c31b0 := eq_true c31
              have c31b1 : decide (10 ≤ (t389.size : Int)) = true := decide_eq_true c31
              clear c31
              by_cases c32 : 10 < (t389.size : Int)
              ·rw [if_pos c32] at H
               have c32b0 : decide (10 < (t389.size : Int)) = true := decide_eq_true c32
               have c32b1 : decide (10 < t389.size) = true := decide_eq_true (by omega)
               clear c32
               obtain ⟨y427, hy427⟩ : ∃ y_ : List Int, y_ = (([Go.bits .xor .u8 (bt t389 10) 1] : List Int)) := ⟨_, rfl⟩
               replace H : (if (t389.extract 0 10).size + (strOfNums y427).size ≤ 9223372036854775807 then (if 11 ≤ (t389.size : Int) then (if ((t389.extract 0 10) ++ (strOfNums y427)).size + (t389.extract 11 t389.size).size ≤ 9223372036854775807 then ((ip4_Parse.f (((t389.extract 0 10) ++ (strOfNums y427)) ++ (t389.extract 11 t389.size))).bind fun bt430 => (if true = true then (if t401 = 2 then (if t413 = 3 then (if t425 = 4 then (some (bt430.2.2.2.2.2.2.2.2.2.2 == 7)) else (some false)) else (some false)) else (some false)) else (some false))) else (none)) else (none)) else (none)) = some r := by first | (rw [hy427]; with_reducible exact H) | (have H2_ := (Option.bind_some _ _).symm.trans H; rw [hy427]; with_reducible exact H2_) | (have H2_ := (Option.bind_some _ _).symm.trans H; with_reducible exact H2_) | with_reducible exact H | (rw [hy427]; exact H) | exact H
               have Ny427 := Aside0.mk hy427
               clear hy427
               by_cases c34 : (t389.extract 0 10).size + (strOfNums y427).size ≤ 9223372036854775807
               ·rw [if_pos c34] at H
                have c34b0 := eq_true c34
                have c34b1 : decide ((t389.extract 0 10).size + (strOfNums y427).size ≤ 9223372036854775807) = true := decide_eq_true c34
                try have c34b2 : (9223372036854775807 < (t389.extract 0 10).size + (strOfNums y427).size) = False := eq_false (Nat.not_lt.2 c34)
                (try (have c34r := c34; (repeat rw [ByteArray.size_append] at c34r); (repeat rw [ByteArray.size_extract] at c34r); (repeat rw [Nat.sub_zero] at c34r); (repeat rw [Nat.min_self] at c34r); have c34rt := eq_true c34r; have c34ru := eq_false (Nat.not_lt.mpr c34r); clear c34r))
                (try (have c34s := c34; simp [c6b0, c7b0, c16b0, c17b0, c25b0, c26b0, c28b0, c30b0, c31b0] at c34s; have c34t := eq_true c34s; have c34u := eq_false (Nat.not_lt.mpr c34s); clear c34s))
                by_cases c35 : 11 ≤ (t389.size : Int)
                ·rw [if_pos c35] at H
                 have c35b0 := eq_true c35
                 have c35b1 : decide (11 ≤ (t389.size : Int)) = true := decide_eq_true c35
                 clear c35
                 by_cases c36 : ((t389.extract 0 10) ++ (strOfNums y427)).size + (t389.extract 11 t389.size).size ≤ 9223372036854775807
                 ·rw [if_pos c36] at H
                  have c36b0 := eq_true c36
                  have c36b1 : decide (((t389.extract 0 10) ++ (strOfNums y427)).size + (t389.extract 11 t389.size).size ≤ 9223372036854775807) = true := decide_eq_true c36
                  try have c36b2 : (9223372036854775807 < ((t389.extract 0 10) ++ (strOfNums y427)).size + (t389.extract 11 t389.size).size) = False := eq_false (Nat.not_lt.2 c36)
                  (try (have c36r := c36; (repeat rw [ByteArray.size_append] at c36r); (repeat rw [ByteArray.size_extract] at c36r); (repeat rw [Nat.sub_zero] at c36r); (repeat rw [Nat.min_self] at c36r); have c36rt := eq_true c36r; have c36ru := eq_false (Nat.not_lt.mpr c36r); clear c36r))
                  (try (have c36s := c36; simp [c6b0, c7b0, c16b0, c17b0, c25b0, c26b0, c28b0, c30b0, c31b0, c34b0, c35b0] at c36s; have c36t := eq_true c36s; have c36u := eq_false (Nat.not_lt.mpr c36s); clear c36s))
                  replace H := Option.bind_eq_some_iff.mp H
                  obtain ⟨⟨t430, t431, t432, t433, t434, t435, t436, t437, t438, t439, t440⟩, A370, H⟩ := H
                  (try set_option simprocs false in dsimp only at H)
                  have A37 := Aside0.mk A370
                  clear A370
                  have c38 : true = true := rfl
                  ·clear c38
                   first | rw [if_pos rfl] at H | rw [if_pos trivial] at H
                   by_cases c39 : t401 = 2
                   ·rw [if_pos c39] at H
                    have c39b0 : (t401 == 2) = true := beq_iff_eq.mpr c39
                    have c39b1 : (t401 != 2) = false := bne_eq_false_iff_eq.mpr c39
                    clear c39
                    by_cases c40 : t413 = 3
                    ·rw [if_pos c40] at H
                     have c40b0 : (t413 == 3) = true := beq_iff_eq.mpr c40
                     have c40b1 : (t413 != 3) = false := bne_eq_false_iff_eq.mpr c40
                     clear c40
                     by_cases c41 : t425 = 4
                     ·rw [if_pos c41] at H
                      have c41b0 : (t425 == 4) = true := beq_iff_eq.mpr c41
                      have c41b1 : (t425 != 4) = false := bne_eq_false_iff_eq.mpr c41
                      clear c41
                      obtain rfl := Option.some.inj H
                      try go_wp2_with (first | ((with_reducible refine gate_callee (f := 18) rfl ?_); refine goesL_ (some 71) rfl rfl Try.func18 (by kernel_rfl) rfl #[.string ((⟨#[101]⟩ : ByteArray) ++ (t389.extract 1 t389.size))] rfl AG ?_; (with_reducible refine (ip4_Parse.calls ((⟨#[101]⟩ : ByteArray) ++ (t389.extract 1 t389.size)) t403 t404 t405 t406 t407 t408 t409 t410 t411 t412 t413 _ A27.out).mono ?_); rintro e w42 ⟨rfl, hb⟩; (try clear A27); refine ⟨_, rfl, ?_⟩; have n0_ := Aside0.mk (blk_below (g := gb402) (o := .cells #[.int .i64 t391, .int .i64 t392, .int .i64 t393, .int .i64 t394, .int .i64 t395, .int .i64 t396, .int .u32 t397, .int .u32 t398, .string t399] 24 (0, 0)) (BD BK402) hb); have n1_ := Aside0.mk (below_step (BW HB) hb); clear BK402; clear HB; have BK402 := n0_; have HB := n1_; clear n0_ n1_; (try clear hb); (try clear hb2); (try clear hk); (try clear hi)) | ((with_reducible refine gate_dst (N := 13) rfl ?_); (try (refine gate_guard (by rfl) ?_; dsimp only)); refine box_event ?hg (N := 13) ?hd (cs := #[.int .i64 0, .int .i64 0, .int .i64 0, .int .i64 0, .int .i64 0, .int .i64 0, .int .u32 0, .int .u32 0, .string (⟨#[]⟩ : ByteArray)]) (t := 24) ?hr ?_; (case hd => rfl); (case hg => rfl); (case hr => first | (go_simp; done) | (go_simp; rfl)); intro gb414 hg w43 hbox hb; have n0_ := Aside0.mk (blk_below (g := gb402) (o := .cells #[.int .i64 t391, .int .i64 t392, .int .i64 t393, .int .i64 t394, .int .i64 t395, .int .i64 t396, .int .u32 t397, .int .u32 t398, .string t399] 24 (0, 0)) (BD BK402) hb); have n1_ := Aside0.mk (below_step (BW HB) hb); have n2_ := Aside0.mk (hbox); have n3_ := Aside0.mk ((by rw [hg]; exact (below_size (BW HB)) : w.heap.size ≤ gb414)); have n4_ := Aside0.mk ((by rw [hg]; exact (below_size (BW HB)) : w.heap.size ≤ gb414)); have n5_ := Aside0.mk ((by rw [hg]; exact Nat.ne_of_lt (blk_lt (g := gb402) (o := .cells #[.int .i64 t391, .int .i64 t392, .int .i64 t393, .int .i64 t394, .int .i64 t395, .int .i64 t396, .int .u32 t397, .int .u32 t398, .string t399] 24 (0, 0)) (BD BK402)) : gb402 ≠ gb414)); have n6_ := Aside0.mk ((by rw [hg]; exact Nat.ne_of_gt (blk_lt (g := gb402) (o := .cells #[.int .i64 t391, .int .i64 t392, .int .i64 t393, .int .i64 t394, .int .i64 t395, .int .i64 t396, .int .u32 t397, .int .u32 t398, .string t399] 24 (0, 0)) (BD BK402)) : gb414 ≠ gb402)); clear BK402; clear HB; have BK402 := n0_; have HB := n1_; have BK414 := n2_; have GW414 := n3_; have GE414 := n4_; have NB402_414 := n5_; have NB414_402 := n6_; clear n0_ n1_ n2_ n3_ n4_ n5_ n6_; clear hb hbox hg; have hnb44 := NB414_402.out; have hnc44 := NB402_414.out; obtain ⟨hcz45_0, hcz45_1, hcz45_2, hcz45_3, hcz45_4, hcz45_5, hcz45_6, hcz45_7, hcz45_8, hfz45_0, hfz45_1, hfz45_2, hfz45_3, hfz45_4, hfz45_5, hfz45_6, hfz45_7, hfz45_8⟩ := blk9 BK414.out) | ((with_reducible refine gate_callee (f := 18) rfl ?_); refine goesL_ (some 79) rfl rfl Try.func18 (by kernel_rfl) rfl #[.string ((⟨#[68]⟩ : ByteArray) ++ (t389.extract 1 t389.size))] rfl AG ?_; (with_reducible refine (ip4_Parse.calls ((⟨#[68]⟩ : ByteArray) ++ (t389.extract 1 t389.size)) t415 t416 t417 t418 t419 t420 t421 t422 t423 t424 t425 _ A29.out).mono ?_); rintro e w46 ⟨rfl, hb⟩; (try clear A29); refine ⟨_, rfl, ?_⟩; have n0_ := Aside0.mk (blk_below (g := gb402) (o := .cells #[.int .i64 t391, .int .i64 t392, .int .i64 t393, .int .i64 t394, .int .i64 t395, .int .i64 t396, .int .u32 t397, .int .u32 t398, .string t399] 24 (0, 0)) (by (with_reducible repeat (first | refine blk_drewN ?_ _ | refine blk_drew ?_ | refine blk_alloc ?_ _)); refine blk_far ?_ NB402_414.out _; (with_reducible repeat (first | refine blk_drewN ?_ _ | refine blk_drew ?_ | refine blk_alloc ?_ _)); refine blk_far ?_ NB402_414.out _; (with_reducible repeat (first | refine blk_drewN ?_ _ | refine blk_drew ?_ | refine blk_alloc ?_ _)); refine blk_far ?_ NB402_414.out _; (with_reducible repeat (first | refine blk_drewN ?_ _ | refine blk_drew ?_ | refine blk_alloc ?_ _)); refine blk_far ?_ NB402_414.out _; (with_reducible repeat (first | refine blk_drewN ?_ _ | refine blk_drew ?_ | refine blk_alloc ?_ _)); refine blk_far ?_ NB402_414.out _; (with_reducible repeat (first | refine blk_drewN ?_ _ | refine blk_drew ?_ | refine blk_alloc ?_ _)); refine blk_far ?_ NB402_414.out _; (with_reducible repeat (first | refine blk_drewN ?_ _ | refine blk_drew ?_ | refine blk_alloc ?_ _)); refine blk_far ?_ NB402_414.out _; (with_reducible repeat (first | refine blk_drewN ?_ _ | refine blk_drew ?_ | refine blk_alloc ?_ _)); refine blk_far ?_ NB402_414.out _; (with_reducible repeat (first | refine blk_drewN ?_ _ | refine blk_drew ?_ | refine blk_alloc ?_ _)); refine blk_far ?_ NB402_414.out _; (with_reducible repeat (first | refine blk_drewN ?_ _ | refine blk_drew ?_ | refine blk_alloc ?_ _)); exact BK402.out) hb); have n1_ := Aside0.mk (blk_below (g := gb414) (o := .cells #[.int .i64 t403, .int .i64 t404, .int .i64 t405, .int .i64 t406, .int .i64 t407, .int .i64 t408, .int .u32 t409, .int .u32 t410, .string t411] 24 (0, 0)) (by (with_reducible repeat (first | refine blk_drewN ?_ _ | refine blk_drew ?_ | refine blk_alloc ?_ _)); refine blk_put (cs := #[.int .i64 t403, .int .i64 t404, .int .i64 t405, .int .i64 t406, .int .i64 t407, .int .i64 t408, .int .u32 t409, .int .u32 t410, .string (⟨#[]⟩ : ByteArray)]) ?_ 8 _ rfl; (with_reducible repeat (first | refine blk_drewN ?_ _ | refine blk_drew ?_ | refine blk_alloc ?_ _)); refine blk_put (cs := #[.int .i64 t403, .int .i64 t404, .int .i64 t405, .int .i64 t406, .int .i64 t407, .int .i64 t408, .int .u32 t409, .int .u32 0, .string (⟨#[]⟩ : ByteArray)]) ?_ 7 _ rfl; (with_reducible repeat (first | refine blk_drewN ?_ _ | refine blk_drew ?_ | refine blk_alloc ?_ _)); refine blk_put (cs := #[.int .i64 t403, .int .i64 t404, .int .i64 t405, .int .i64 t406, .int .i64 t407, .int .i64 t408, .int .u32 0, .int .u32 0, .string (⟨#[]⟩ : ByteArray)]) ?_ 6 _ rfl; (with_reducible repeat (first | refine blk_drewN ?_ _ | refine blk_drew ?_ | refine blk_alloc ?_ _)); refine blk_put (cs := #[.int .i64 t403, .int .i64 t404, .int .i64 t405, .int .i64 t406, .int .i64 t407, .int .i64 0, .int .u32 0, .int .u32 0, .string (⟨#[]⟩ : ByteArray)]) ?_ 5 _ rfl; (with_reducible repeat (first | refine blk_drewN ?_ _ | refine blk_drew ?_ | refine blk_alloc ?_ _)); refine blk_put (cs := #[.int .i64 t403, .int .i64 t404, .int .i64 t405, .int .i64 t406, .int .i64 0, .int .i64 0, .int .u32 0, .int .u32 0, .string (⟨#[]⟩ : ByteArray)]) ?_ 4 _ rfl; (with_reducible repeat (first | refine blk_drewN ?_ _ | refine blk_drew ?_ | refine blk_alloc ?_ _)); refine blk_put (cs := #[.int .i64 t403, .int .i64 t404, .int .i64 t405, .int .i64 0, .int .i64 0, .int .i64 0, .int .u32 0, .int .u32 0, .string (⟨#[]⟩ : ByteArray)]) ?_ 3 _ rfl; (with_reducible repeat (first | refine blk_drewN ?_ _ | refine blk_drew ?_ | refine blk_alloc ?_ _)); refine blk_put (cs := #[.int .i64 t403, .int .i64 t404, .int .i64 0, .int .i64 0, .int .i64 0, .int .i64 0, .int .u32 0, .int .u32 0, .string (⟨#[]⟩ : ByteArray)]) ?_ 2 _ rfl; (with_reducible repeat (first | refine blk_drewN ?_ _ | refine blk_drew ?_ | refine blk_alloc ?_ _)); refine blk_put (cs := #[.int .i64 t403, .int .i64 0, .int .i64 0, .int .i64 0, .int .i64 0, .int .i64 0, .int .u32 0, .int .u32 0, .string (⟨#[]⟩ : ByteArray)]) ?_ 1 _ rfl; (with_reducible repeat (first | refine blk_drewN ?_ _ | refine blk_drew ?_ | refine blk_alloc ?_ _)); refine blk_put (cs := #[.int .i64 0, .int .i64 0, .int .i64 0, .int .i64 0, .int .i64 0, .int .i64 0, .int .u32 0, .int .u32 0, .string (⟨#[]⟩ : ByteArray)]) ?_ 0 _ rfl; (with_reducible repeat (first | refine blk_drewN ?_ _ | refine blk_drew ?_ | refine blk_alloc ?_ _)); exact BK414.out) hb); have n2_ := Aside0.mk (below_step (BW HB) hb); clear BK402; clear BK414; clear HB; have BK402 := n0_; have BK414 := n1_; have HB := n2_; clear n0_ n1_ n2_; (try clear hb); (try clear hb2); (try clear hk); (try clear hi)) | ((with_reducible refine gate_dst (N := 16) rfl ?_); (try (refine gate_guard (by rfl) ?_; dsimp only)); refine box_event ?hg (N := 16) ?hd (cs := #[.int .i64 0, .int .i64 0, .int .i64 0, .int .i64 0, .int .i64 0, .int .i64 0, .int .u32 0, .int .u32 0, .string (⟨#[]⟩ : ByteArray)]) (t := 24) ?hr ?_; (case hd => rfl); (case hg => rfl); (case hr => first | (go_simp; done) | (go_simp; rfl)); intro gb426 hg w47 hbox hb; have n0_ := Aside0.mk (blk_below (g := gb402) (o := .cells #[.int .i64 t391, .int .i64 t392, .int .i64 t393, .int .i64 t394, .int .i64 t395, .int .i64 t396, .int .u32 t397, .int .u32 t398, .string t399] 24 (0, 0)) (BD BK402) hb); have n1_ := Aside0.mk (blk_below (g := gb414) (o := .cells #[.int .i64 t403, .int .i64 t404, .int .i64 t405, .int .i64 t406, .int .i64 t407, .int .i64 t408, .int .u32 t409, .int .u32 t410, .string t411] 24 (0, 0)) (BD BK414) hb); have n2_ := Aside0.mk (below_step (BW HB) hb); have n3_ := Aside0.mk (hbox); have n4_ := Aside0.mk ((by rw [hg]; exact (below_size (BW HB)) : w.heap.size ≤ gb426)); have n5_ := Aside0.mk ((by rw [hg]; exact (below_size (BW HB)) : w.heap.size ≤ gb426)); have n6_ := Aside0.mk ((by rw [hg]; exact Nat.ne_of_lt (blk_lt (g := gb402) (o := .cells #[.int .i64 t391, .int .i64 t392, .int .i64 t393, .int .i64 t394, .int .i64 t395, .int .i64 t396, .int .u32 t397, .int .u32 t398, .string t399] 24 (0, 0)) (BD BK402)) : gb402 ≠ gb426)); have n7_ := Aside0.mk ((by rw [hg]; exact Nat.ne_of_gt (blk_lt (g := gb402) (o := .cells #[.int .i64 t391, .int .i64 t392, .int .i64 t393, .int .i64 t394, .int .i64 t395, .int .i64 t396, .int .u32 t397, .int .u32 t398, .string t399] 24 (0, 0)) (BD BK402)) : gb426 ≠ gb402)); have n8_ := Aside0.mk ((by rw [hg]; exact Nat.ne_of_lt (blk_lt (g := gb414) (o := .cells #[.int .i64 t403, .int .i64 t404, .int .i64 t405, .int .i64 t406, .int .i64 t407, .int .i64 t408, .int .u32 t409, .int .u32 t410, .string t411] 24 (0, 0)) (BD BK414)) : gb414 ≠ gb426)); have n9_ := Aside0.mk ((by rw [hg]; exact Nat.ne_of_gt (blk_lt (g := gb414) (o := .cells #[.int .i64 t403, .int .i64 t404, .int .i64 t405, .int .i64 t406, .int .i64 t407, .int .i64 t408, .int .u32 t409, .int .u32 t410, .string t411] 24 (0, 0)) (BD BK414)) : gb426 ≠ gb414)); clear BK402; clear BK414; clear HB; have BK402 := n0_; have BK414 := n1_; have HB := n2_; have BK426 := n3_; have GW426 := n4_; have GE426 := n5_; have NB402_426 := n6_; have NB426_402 := n7_; have NB414_426 := n8_; have NB426_414 := n9_; clear n0_ n1_ n2_ n3_ n4_ n5_ n6_ n7_ n8_ n9_; clear hb hbox hg; have hnb48 := NB426_402.out; have hnc48 := NB402_426.out; have hnb49 := NB426_414.out; have hnc49 := NB414_426.out; obtain ⟨hcz50_0, hcz50_1, hcz50_2, hcz50_3, hcz50_4, hcz50_5, hcz50_6, hcz50_7, hcz50_8, hfz50_0, hfz50_1, hfz50_2, hfz50_3, hfz50_4, hfz50_5, hfz50_6, hfz50_7, hfz50_8⟩ := blk9 BK426.out))
                      have n0_ : Aside0 ((((((((((w47.setCell ⟨gb426, 0, none⟩ (.int .i64 t415)).setCell ⟨gb426, 1, none⟩ (.int .i64 t416)).setCell ⟨gb426, 2, none⟩ (.int .i64 t417)).setCell ⟨gb426, 3, none⟩ (.int .i64 t418)).setCell ⟨gb426, 4, none⟩ (.int .i64 t419)).setCell ⟨gb426, 5, none⟩ (.int .i64 t420)).setCell ⟨gb426, 6, none⟩ (.int .u32 t421)).setCell ⟨gb426, 7, none⟩ (.int .u32 t422)).setCell ⟨gb426, 8, none⟩ (.string t423)).heap[gb402]? = some (.cells #[.int .i64 t391, .int .i64 t392, .int .i64 t393, .int .i64 t394, .int .i64 t395, .int .i64 t396, .int .u32 t397, .int .u32 t398, .string t399] 24 (0, 0))) := ⟨by (with_reducible repeat (first | refine blk_drewN ?_ _ | refine blk_drew ?_ | refine blk_alloc ?_ _)); refine blk_far ?_ NB402_426.out _; (with_reducible repeat (first | refine blk_drewN ?_ _ | refine blk_drew ?_ | refine blk_alloc ?_ _)); refine blk_far ?_ NB402_426.out _; (with_reducible repeat (first | refine blk_drewN ?_ _ | refine blk_drew ?_ | refine blk_alloc ?_ _)); refine blk_far ?_ NB402_426.out _; (with_reducible repeat (first | refine blk_drewN ?_ _ | refine blk_drew ?_ | refine blk_alloc ?_ _)); refine blk_far ?_ NB402_426.out _; (with_reducible repeat (first | refine blk_drewN ?_ _ | refine blk_drew ?_ | refine blk_alloc ?_ _)); refine blk_far ?_ NB402_426.out _; (with_reducible repeat (first | refine blk_drewN ?_ _ | refine blk_drew ?_ | refine blk_alloc ?_ _)); refine blk_far ?_ NB402_426.out _; (with_reducible repeat (first | refine blk_drewN ?_ _ | refine blk_drew ?_ | refine blk_alloc ?_ _)); refine blk_far ?_ NB402_426.out _; (with_reducible repeat (first | refine blk_drewN ?_ _ | refine blk_drew ?_ | refine blk_alloc ?_ _)); refine blk_far ?_ NB402_426.out _; (with_reducible repeat (first | refine blk_drewN ?_ _ | refine blk_drew ?_ | refine blk_alloc ?_ _)); refine blk_far ?_ NB402_426.out _; (with_reducible repeat (first | refine blk_drewN ?_ _ | refine blk_drew ?_ | refine blk_alloc ?_ _)); exact BK402.out⟩
                      have n1_ : Aside0 ((((((((((w47.setCell ⟨gb426, 0, none⟩ (.int .i64 t415)).setCell ⟨gb426, 1, none⟩ (.int .i64 t416)).setCell ⟨gb426, 2, none⟩ (.int .i64 t417)).setCell ⟨gb426, 3, none⟩ (.int .i64 t418)).setCell ⟨gb426, 4, none⟩ (.int .i64 t419)).setCell ⟨gb426, 5, none⟩ (.int .i64 t420)).setCell ⟨gb426, 6, none⟩ (.int .u32 t421)).setCell ⟨gb426, 7, none⟩ (.int .u32 t422)).setCell ⟨gb426, 8, none⟩ (.string t423)).heap[gb414]? = some (.cells #[.int .i64 t403, .int .i64 t404, .int .i64 t405, .int .i64 t406, .int .i64 t407, .int .i64 t408, .int .u32 t409, .int .u32 t410, .string t411] 24 (0, 0))) := ⟨by (with_reducible repeat (first | refine blk_drewN ?_ _ | refine blk_drew ?_ | refine blk_alloc ?_ _)); refine blk_far ?_ NB414_426.out _; (with_reducible repeat (first | refine blk_drewN ?_ _ | refine blk_drew ?_ | refine blk_alloc ?_ _)); refine blk_far ?_ NB414_426.out _; (with_reducible repeat (first | refine blk_drewN ?_ _ | refine blk_drew ?_ | refine blk_alloc ?_ _)); refine blk_far ?_ NB414_426.out _; (with_reducible repeat (first | refine blk_drewN ?_ _ | refine blk_drew ?_ | refine blk_alloc ?_ _)); refine blk_far ?_ NB414_426.out _; (with_reducible repeat (first | refine blk_drewN ?_ _ | refine blk_drew ?_ | refine blk_alloc ?_ _)); refine blk_far ?_ NB414_426.out _; (with_reducible repeat (first | refine blk_drewN ?_ _ | refine blk_drew ?_ | refine blk_alloc ?_ _)); refine blk_far ?_ NB414_426.out _; (with_reducible repeat (first | refine blk_drewN ?_ _ | refine blk_drew ?_ | refine blk_alloc ?_ _)); refine blk_far ?_ NB414_426.out _; (with_reducible repeat (first | refine blk_drewN ?_ _ | refine blk_drew ?_ | refine blk_alloc ?_ _)); refine blk_far ?_ NB414_426.out _; (with_reducible repeat (first | refine blk_drewN ?_ _ | refine blk_drew ?_ | refine blk_alloc ?_ _)); refine blk_far ?_ NB414_426.out _; (with_reducible repeat (first | refine blk_drewN ?_ _ | refine blk_drew ?_ | refine blk_alloc ?_ _)); exact BK414.out⟩
                      have n2_ : Aside0 ((((((((((w47.setCell ⟨gb426, 0, none⟩ (.int .i64 t415)).setCell ⟨gb426, 1, none⟩ (.int .i64 t416)).setCell ⟨gb426, 2, none⟩ (.int .i64 t417)).setCell ⟨gb426, 3, none⟩ (.int .i64 t418)).setCell ⟨gb426, 4, none⟩ (.int .i64 t419)).setCell ⟨gb426, 5, none⟩ (.int .i64 t420)).setCell ⟨gb426, 6, none⟩ (.int .u32 t421)).setCell ⟨gb426, 7, none⟩ (.int .u32 t422)).setCell ⟨gb426, 8, none⟩ (.string t423)).heap[gb426]? = some (.cells #[.int .i64 t415, .int .i64 t416, .int .i64 t417, .int .i64 t418, .int .i64 t419, .int .i64 t420, .int .u32 t421, .int .u32 t422, .string t423] 24 (0, 0))) := ⟨by (with_reducible repeat (first | refine blk_drewN ?_ _ | refine blk_drew ?_ | refine blk_alloc ?_ _)); refine blk_put (cs := #[.int .i64 t415, .int .i64 t416, .int .i64 t417, .int .i64 t418, .int .i64 t419, .int .i64 t420, .int .u32 t421, .int .u32 t422, .string (⟨#[]⟩ : ByteArray)]) ?_ 8 _ rfl; (with_reducible repeat (first | refine blk_drewN ?_ _ | refine blk_drew ?_ | refine blk_alloc ?_ _)); refine blk_put (cs := #[.int .i64 t415, .int .i64 t416, .int .i64 t417, .int .i64 t418, .int .i64 t419, .int .i64 t420, .int .u32 t421, .int .u32 0, .string (⟨#[]⟩ : ByteArray)]) ?_ 7 _ rfl; (with_reducible repeat (first | refine blk_drewN ?_ _ | refine blk_drew ?_ | refine blk_alloc ?_ _)); refine blk_put (cs := #[.int .i64 t415, .int .i64 t416, .int .i64 t417, .int .i64 t418, .int .i64 t419, .int .i64 t420, .int .u32 0, .int .u32 0, .string (⟨#[]⟩ : ByteArray)]) ?_ 6 _ rfl; (with_reducible repeat (first | refine blk_drewN ?_ _ | refine blk_drew ?_ | refine blk_alloc ?_ _)); refine blk_put (cs := #[.int .i64 t415, .int .i64 t416, .int .i64 t417, .int .i64 t418, .int .i64 t419, .int .i64 0, .int .u32 0, .int .u32 0, .string (⟨#[]⟩ : ByteArray)]) ?_ 5 _ rfl; (with_reducible repeat (first | refine blk_drewN ?_ _ | refine blk_drew ?_ | refine blk_alloc ?_ _)); refine blk_put (cs := #[.int .i64 t415, .int .i64 t416, .int .i64 t417, .int .i64 t418, .int .i64 0, .int .i64 0, .int .u32 0, .int .u32 0, .string (⟨#[]⟩ : ByteArray)]) ?_ 4 _ rfl; (with_reducible repeat (first | refine blk_drewN ?_ _ | refine blk_drew ?_ | refine blk_alloc ?_ _)); refine blk_put (cs := #[.int .i64 t415, .int .i64 t416, .int .i64 t417, .int .i64 0, .int .i64 0, .int .i64 0, .int .u32 0, .int .u32 0, .string (⟨#[]⟩ : ByteArray)]) ?_ 3 _ rfl; (with_reducible repeat (first | refine blk_drewN ?_ _ | refine blk_drew ?_ | refine blk_alloc ?_ _)); refine blk_put (cs := #[.int .i64 t415, .int .i64 t416, .int .i64 0, .int .i64 0, .int .i64 0, .int .i64 0, .int .u32 0, .int .u32 0, .string (⟨#[]⟩ : ByteArray)]) ?_ 2 _ rfl; (with_reducible repeat (first | refine blk_drewN ?_ _ | refine blk_drew ?_ | refine blk_alloc ?_ _)); refine blk_put (cs := #[.int .i64 t415, .int .i64 0, .int .i64 0, .int .i64 0, .int .i64 0, .int .i64 0, .int .u32 0, .int .u32 0, .string (⟨#[]⟩ : ByteArray)]) ?_ 1 _ rfl; (with_reducible repeat (first | refine blk_drewN ?_ _ | refine blk_drew ?_ | refine blk_alloc ?_ _)); refine blk_put (cs := #[.int .i64 0, .int .i64 0, .int .i64 0, .int .i64 0, .int .i64 0, .int .i64 0, .int .u32 0, .int .u32 0, .string (⟨#[]⟩ : ByteArray)]) ?_ 0 _ rfl; (with_reducible repeat (first | refine blk_drewN ?_ _ | refine blk_drew ?_ | refine blk_alloc ?_ _)); exact BK426.out⟩
                      have n3_ : Aside0 (Below w.heap.size w (((((((((w47.setCell ⟨gb426, 0, none⟩ (.int .i64 t415)).setCell ⟨gb426, 1, none⟩ (.int .i64 t416)).setCell ⟨gb426, 2, none⟩ (.int .i64 t417)).setCell ⟨gb426, 3, none⟩ (.int .i64 t418)).setCell ⟨gb426, 4, none⟩ (.int .i64 t419)).setCell ⟨gb426, 5, none⟩ (.int .i64 t420)).setCell ⟨gb426, 6, none⟩ (.int .u32 t421)).setCell ⟨gb426, 7, none⟩ (.int .u32 t422)).setCell ⟨gb426, 8, none⟩ (.string t423))) := ⟨BW HB⟩
                      (try clear BK402)
                      (try clear BK414)
                      (try clear BK426)
                      (try clear HB)
                      generalize (((((((((w47.setCell ⟨gb426, 0, none⟩ (.int .i64 t415)).setCell ⟨gb426, 1, none⟩ (.int .i64 t416)).setCell ⟨gb426, 2, none⟩ (.int .i64 t417)).setCell ⟨gb426, 3, none⟩ (.int .i64 t418)).setCell ⟨gb426, 4, none⟩ (.int .i64 t419)).setCell ⟨gb426, 5, none⟩ (.int .i64 t420)).setCell ⟨gb426, 6, none⟩ (.int .u32 t421)).setCell ⟨gb426, 7, none⟩ (.int .u32 t422)).setCell ⟨gb426, 8, none⟩ (.string t423)) = w51 at n0_ n1_ n2_ n3_ ⊢
                      have BK402 := n0_
                      have BK414 := n1_
                      have BK426 := n2_
                      have HB := n3_
                      clear n0_ n1_ n2_ n3_
                      have n0_ := Aside0.mk (blk_drew BK402.out)
                      have n1_ := Aside0.mk (blk_drew BK414.out)
                      have n2_ := Aside0.mk (blk_drew BK426.out)
                      have n3_ := Aside0.mk (below_drew1 HB.out)
                      clear BK402
                      clear BK414
                      clear BK426
                      clear HB
                      have BK402 := n0_
                      have BK414 := n1_
                      have BK426 := n2_
                      have HB := n3_
                      clear n0_ n1_ n2_ n3_
                      have p33 : 0 ≤ (10 : Int) := (by omega)
                      have q33 : 10 < t389.size := (by have : (10 : Int) < (t389.size : Int) := of_decide_eq_true (by first | (with_reducible assumption) | assumption); omega)
                      have hx33 : ∀ h : 10 < t389.size, ((t389[10]'h).toNat : Int) = bt t389 10 := bt_at t389 10
                      clear p33
                      have qi33 : (10 < (t389.size : Int)) = True := eq_true (of_decide_eq_true (by first | (with_reducible assumption) | assumption))
                      replace q33 := eq_true q33
                      refine start_ (n := 20) (S := fun w' => True) (ds := []) (bm 20 0x0) (by kernel_rfl) rfl rfl trivial (fun hHeld => ?_); refine with_tabW weighbridgelaw04_Ip4Order.tab17 weighbridgelaw04_Ip4Order.bits17 (fun HT_ HW_ => ?_)
                      generalize w51.drew = w52 at BK402 BK414 BK426 HB hHeld ⊢
                      refine pure_ (i := 0) (N := some 84) (v := ?_) (a' := ?_) (bm 20 0x1) rfl rfl (any_of HT_.out (by kernel_rfl)) (fun _ _ _ h => h) (Or.inl ⟨by rfl, ?_⟩) ?_ ?_
                      rotate_left
                      ·intro w'
                       go_simp
                       with_reducible rfl
                      rotate_left
                      ·simp only [Act.put, zpA, zpO, zpS, i64_w, i32_w]
                       rfl
                      refine pure_ (i := 1) (N := some 85) (v := ?_) (a' := ?_) (bm 20 0x3) rfl rfl (any_of HT_.out (by kernel_rfl)) (fun _ _ _ h => h) (Or.inl ⟨by rfl, ?_⟩) ?_ ?_
                      rotate_left
                      ·intro w'
                       go_simp
                       with_reducible rfl
                      rotate_left
                      ·simp only [Act.put, zpA, zpO, zpS, i64_w, i32_w]
                       rfl
                      refine pure_ (i := 2) (N := some 86) (v := ?_) (a' := ?_) (bm 20 0x7) rfl rfl (any_of HT_.out (by kernel_rfl)) (fun _ _ _ h => h) (Or.inl ⟨by rfl, ?_⟩) ?_ ?_
                      rotate_left
                      ·intro w'
                       go_simp
                       with_reducible rfl
                      rotate_left
                      ·simp only [Act.put, zpA, zpO, zpS, i64_w, i32_w]
                       rfl
                      refine pure_ (i := 8) (N := some 92) (v := ?_) (a' := ?_) (bm 20 0x107) rfl rfl (any_of HT_.out (by kernel_rfl)) (fun _ _ _ h => h) (Or.inl ⟨by rfl, ?_⟩) ?_ ?_
                      rotate_left
                      ·intro w'
                       go_simp
                       with_reducible rfl
                      rotate_left
                      ·simp only [Act.put, zpA, zpO, zpS, i64_w, i32_w]
                       rfl
                      refine pure_ (i := 9) (N := some 93) (v := ?_) (a' := ?_) (bm 20 0x307) rfl rfl (any_of HT_.out (by kernel_rfl)) (fun _ _ _ h => h) (Or.inl ⟨by rfl, ?_⟩) ?_ ?_
                      rotate_left
                      ·intro w'
                       go_simp
                       with_reducible rfl
                      rotate_left
                      ·simp only [Act.put, zpA, zpO, zpS, i64_w, i32_w]
                       rfl
                      refine take_ (i := 3) (N := some 87) (v := ?_) (a' := ?_) (bm 20 0x30f) rfl rfl (take_ofW HT_.out HW_.out (by kernel_rfl)) (fun _ _ _ h => h) (Or.inl ⟨by rfl, ?_⟩) hHeld ?_ ?_
                      rotate_left
                      ·intro w' _
                       go_simp
                       with_reducible rfl
                      rotate_left
                      ·simp only [Act.put, zpA, zpO, zpS, i64_w, i32_w]
                       rfl
                      refine pure_ (i := 4) (N := some 88) (v := ?_) (a' := ?_) (bm 20 0x31f) rfl rfl (any_of HT_.out (by kernel_rfl)) (fun _ _ _ h => h) (Or.inl ⟨by rfl, ?_⟩) ?_ ?_
                      rotate_left
                      ·intro w'
                       go_simp
                       with_reducible rfl
                      rotate_left
                      ·simp only [Act.put, zpA, zpO, zpS, i64_w, i32_w]
                       rfl
                      refine join_ (σ := Value × Nat) 3 (bm 20 0x1ffff) (fun s_ => [(89, s_.1), (90, .string (strOfNums y427)), (95, .tuple #[.agg #[.int .i64 t430, .int .i64 t431, .int .i64 t432, .int .i64 t433, .int .i64 t434, .int .i64 t435, .int .u32 t436, .int .u32 t437, .string t438], .string t439, .int .i64 t440]), (19, .pointer (some ⟨s_.2, 0, none⟩)), (91, .string ((t389.extract 0 10) ++ (strOfNums y427))), (94, .string (((t389.extract 0 10) ++ (strOfNums y427)) ++ (t389.extract 11 t389.size))), (83, .tuple #[.agg #[.int .i64 t430, .int .i64 t431, .int .i64 t432, .int .i64 t433, .int .i64 t434, .int .i64 t435, .int .u32 t436, .int .u32 t437, .string t438], .string t439, .int .i64 t440]), (96, .agg #[.int .i64 t430, .int .i64 t431, .int .i64 t432, .int .i64 t433, .int .i64 t434, .int .i64 t435, .int .u32 t436, .int .u32 t437, .string t438]), (97, .string t439), (98, .int .i64 t440)]) (fun s_ w' => (Kd.R (Kd.int .u8) 5 w' w.heap.size (fun _ => True) s_.1 y427) ∧ (w'.heap[gb402]? = some (.cells #[.int .i64 t391, .int .i64 t392, .int .i64 t393, .int .i64 t394, .int .i64 t395, .int .i64 t396, .int .u32 t397, .int .u32 t398, .string t399] 24 (0, 0))) ∧ (w'.heap[gb414]? = some (.cells #[.int .i64 t403, .int .i64 t404, .int .i64 t405, .int .i64 t406, .int .i64 t407, .int .i64 t408, .int .u32 t409, .int .u32 t410, .string t411] 24 (0, 0))) ∧ (w'.heap[gb426]? = some (.cells #[.int .i64 t415, .int .i64 t416, .int .i64 t417, .int .i64 t418, .int .i64 t419, .int .i64 t420, .int .u32 t421, .int .u32 t422, .string t423] 24 (0, 0))) ∧ (w'.heap[s_.2]? = some (.cells #[.int .i64 0, .int .i64 0, .int .i64 0, .int .i64 0, .int .i64 0, .int .i64 0, .int .u32 0, .int .u32 0, .string (⟨#[]⟩ : ByteArray)] 24 (0, 0))) ∧ (w.heap.size ≤ s_.2) ∧ (w.heap.size ≤ s_.2) ∧ (gb402 ≠ s_.2) ∧ (s_.2 ≠ gb402) ∧ (gb414 ≠ s_.2) ∧ (s_.2 ≠ gb414) ∧ (gb426 ≠ s_.2) ∧ (s_.2 ≠ gb426) ∧ (Below w.heap.size w w')) ?_ ?_
                      rotate_left
                      ·intro hCont
                       refine two_ (i := 5) (j := 16) (Ni := some 89) (Nj := some 19) (bm 20 0x33f) (bm 20 0x1031f) rfl rfl rfl rfl (two_of HT_.out (by kernel_rfl)) (by decide) (by decide) (fun K hK => ?_) (fun K hK => ?_)
                       ·skip
                        refine Kd.R_lit_step (Kd.int .u8) _ 5 ?hg (N := 89) ?hd (xs := ([Go.bits .xor .u8 (bt t389 10) 1] : List Int)) (inner := [.int .u8 (Go.bits .xor .u8 (bt t389 10) 1)]) (ok := fun _ => True) (okp := fun _ => True) ?hr ?hp (fun _ hk => hk) trivial (Below.refl _ _) (Nat.le_refl _) (by simp) ?_; (case hd => rfl); (case hg => rfl); (case hr => first | (go_simp; done) | (go_simp; rfl)); (case hp => exact (Reps.one (show Kd.M (Kd.int .u8) _ _ _ (Go.bits .xor .u8 (bt t389 10) 1) [.int .u8 (Go.bits .xor .u8 (bt t389 10) 1)] from rfl) (Reps.none _ _)))
                        intro v428 w53 ho54 hb hg_ hnew_
                        clear hg_ hnew_
                        (first | rw [← Ny427.out] at ho54 | (simp only [Int.reduceToNat] at ho54; rw [← Ny427.out] at ho54))
                        have n0_ := Aside0.mk (Kd.R_lower ho54 (below_size (BW HB)))
                        have n1_ := Aside0.mk (blk_below (g := gb402) (o := .cells #[.int .i64 t391, .int .i64 t392, .int .i64 t393, .int .i64 t394, .int .i64 t395, .int .i64 t396, .int .u32 t397, .int .u32 t398, .string t399] 24 (0, 0)) (BD BK402) hb)
                        have n2_ := Aside0.mk (blk_below (g := gb414) (o := .cells #[.int .i64 t403, .int .i64 t404, .int .i64 t405, .int .i64 t406, .int .i64 t407, .int .i64 t408, .int .u32 t409, .int .u32 t410, .string t411] 24 (0, 0)) (BD BK414) hb)
                        have n3_ := Aside0.mk (blk_below (g := gb426) (o := .cells #[.int .i64 t415, .int .i64 t416, .int .i64 t417, .int .i64 t418, .int .i64 t419, .int .i64 t420, .int .u32 t421, .int .u32 t422, .string t423] 24 (0, 0)) (BD BK426) hb)
                        have n4_ := Aside0.mk (below_step (BW HB) hb)
                        clear BK402
                        clear BK414
                        clear BK426
                        clear HB
                        have HO429 := n0_
                        have BK402 := n1_
                        have BK414 := n2_
                        have BK426 := n3_
                        have HB := n4_
                        clear n0_ n1_ n2_ n3_ n4_
                        clear hb ho54
                        refine hK.out _ _ trivial (fun hHeld => ?_)
                        clear hK K
                        refine norm_ (a' := ?_) ?_ ?_
                        rotate_left
                        ·show Act.put _ (some 89) _ = _
                         simp only [Act.put, zpA, zpO, zpS, i64_w, i32_w]
                         rfl
                        refine two_ (i := 6) (j := 16) (Ni := some 90) (Nj := some 19) (bm 20 0x37f) (bm 20 0x1033f) rfl rfl rfl rfl (two_of HT_.out (by kernel_rfl)) (by decide) (by decide) (fun K hK => ?_) (fun K hK => ?_)
                        ·skip
                         have hcv55 := own_string (P := Try.prog) Try.underlying42 Try.underlying5 Try.underlying9 (Kd.own_of_R HO429.out)
                         refine value_ (w1 := ?_) (v := ?_) (by rfl) rfl ?_ ?_
                         rotate_left 2
                         ·go_simp
                          constructor
                          ·rfl
                          ·rfl
                         clear hcv55
                         refine hK.out _ _ trivial (fun hHeld => ?_)
                         clear hK K
                         refine norm_ (a' := ?_) ?_ ?_
                         rotate_left
                         ·show Act.put _ (some 90) _ = _
                          simp only [Act.put, zpA, zpO, zpS, i64_w, i32_w]
                          rfl
                         refine pure_ (i := 7) (N := some 91) (v := ?_) (a' := ?_) (bm 20 0x3ff) rfl rfl (any_of HT_.out (by kernel_rfl)) (fun _ _ _ h => h) (Or.inl ⟨by rfl, ?_⟩) ?_ ?_
                         rotate_left
                         ·intro w'
                          go_simp
                          with_reducible rfl
                         rotate_left
                         ·simp only [Act.put, zpA, zpO, zpS, i64_w, i32_w]
                          rfl
                         refine pure_ (i := 10) (N := some 94) (v := ?_) (a' := ?_) (bm 20 0x7ff) rfl rfl (any_of HT_.out (by kernel_rfl)) (fun _ _ _ h => h) (Or.inl ⟨by rfl, ?_⟩) ?_ ?_
                         rotate_left
                         ·intro w'
                          go_simp
                          with_reducible rfl
                         rotate_left
                         ·simp only [Act.put, zpA, zpO, zpS, i64_w, i32_w]
                          rfl
                         refine two_ (i := 11) (j := 16) (Ni := some 95) (Nj := some 19) (bm 20 0xfff) (bm 20 0x107ff) rfl rfl rfl rfl (two_of HT_.out (by kernel_rfl)) (by decide) (by decide) (fun K hK => ?_) (fun K hK => ?_)
                         ·skip
                          refine goes_ Try.func18 (by kernel_rfl) rfl #[.string (((t389.extract 0 10) ++ (strOfNums y427)) ++ (t389.extract 11 t389.size))] (by rfl) rfl rfl (by (try simp only [List.map_toArray, List.map_cons, List.map_nil]); first | done | rfl | (simp only [Int.toNat_natCast]; first | done | rfl) | (rw [Int.toNat_natCast, ByteArray.extract_zero_size]; rfl) | (simp only [List.length_drop, List.length_take]; rfl)) ?_
                          with_reducible refine (ip4_Parse.calls (((t389.extract 0 10) ++ (strOfNums y427)) ++ (t389.extract 11 t389.size)) t430 t431 t432 t433 t434 t435 t436 t437 t438 t439 t440 _ A37.out).mono ?_
                          rintro e w56 ⟨rfl, hb⟩
                          refine ⟨_, rfl, ?_⟩
                          have n0_ := Aside0.mk (Kd.R_below (by (with_reducible repeat (first | apply Kd.R_alloc | apply Kd.R_drewN | apply Kd.R_drew)); exact HO429.out) hb)
                          have n1_ := Aside0.mk (blk_below (g := gb402) (o := .cells #[.int .i64 t391, .int .i64 t392, .int .i64 t393, .int .i64 t394, .int .i64 t395, .int .i64 t396, .int .u32 t397, .int .u32 t398, .string t399] 24 (0, 0)) (BD BK402) hb)
                          have n2_ := Aside0.mk (blk_below (g := gb414) (o := .cells #[.int .i64 t403, .int .i64 t404, .int .i64 t405, .int .i64 t406, .int .i64 t407, .int .i64 t408, .int .u32 t409, .int .u32 t410, .string t411] 24 (0, 0)) (BD BK414) hb)
                          have n3_ := Aside0.mk (blk_below (g := gb426) (o := .cells #[.int .i64 t415, .int .i64 t416, .int .i64 t417, .int .i64 t418, .int .i64 t419, .int .i64 t420, .int .u32 t421, .int .u32 t422, .string t423] 24 (0, 0)) (BD BK426) hb)
                          have n4_ := Aside0.mk (below_step (BW HB) hb)
                          clear HO429
                          clear BK402
                          clear BK414
                          clear BK426
                          clear HB
                          have HO429 := n0_
                          have BK402 := n1_
                          have BK414 := n2_
                          have BK426 := n3_
                          have HB := n4_
                          clear n0_ n1_ n2_ n3_ n4_
                          (try clear hb)
                          (try clear hb2)
                          (try clear hk)
                          (try clear hi)
                          refine hK.out _ _ trivial (fun hHeld => ?_)
                          clear hK K
                          refine norm_ (a' := ?_) ?_ ?_
                          rotate_left
                          ·show Act.put _ (some 95) _ = _
                           simp only [Act.put, zpA, zpO, zpS, i64_w, i32_w]
                           rfl
                          refine pure_ (i := 12) (N := some 83) (v := ?_) (a' := ?_) (bm 20 0x1fff) rfl rfl (any_of HT_.out (by kernel_rfl)) (fun _ _ _ h => h) (Or.inl ⟨by rfl, ?_⟩) ?_ ?_
                          rotate_left
                          ·intro w'
                           go_simp
                           with_reducible rfl
                          rotate_left
                          ·simp only [Act.put, zpA, zpO, zpS, i64_w, i32_w]
                           rfl
                          refine pure_ (i := 13) (N := some 96) (v := ?_) (a' := ?_) (bm 20 0x3fff) rfl rfl (any_of HT_.out (by kernel_rfl)) (fun _ _ _ h => h) (Or.inl ⟨by rfl, ?_⟩) ?_ ?_
                          rotate_left
                          ·intro w'
                           go_simp
                           with_reducible rfl
                          rotate_left
                          ·simp only [Act.put, zpA, zpO, zpS, i64_w, i32_w]
                           rfl
                          refine pure_ (i := 14) (N := some 97) (v := ?_) (a' := ?_) (bm 20 0x7fff) rfl rfl (any_of HT_.out (by kernel_rfl)) (fun _ _ _ h => h) (Or.inl ⟨by rfl, ?_⟩) ?_ ?_
                          rotate_left
                          ·intro w'
                           go_simp
                           with_reducible rfl
                          rotate_left
                          ·simp only [Act.put, zpA, zpO, zpS, i64_w, i32_w]
                           rfl
                          refine pure_ (i := 15) (N := some 98) (v := ?_) (a' := ?_) (bm 20 0xffff) rfl rfl (any_of HT_.out (by kernel_rfl)) (fun _ _ _ h => h) (Or.inl ⟨by rfl, ?_⟩) ?_ ?_
                          rotate_left
                          ·intro w'
                           go_simp
                           with_reducible rfl
                          rotate_left
                          ·simp only [Act.put, zpA, zpO, zpS, i64_w, i32_w]
                           rfl
                          refine one_ (i := 16) (N := some 19) (bm 20 0x1ffff) rfl rfl (one_of HT_.out (by kernel_rfl)) (by decide) (fun K hK => ?_)
                          refine box_step ?hg (N := 19) ?hd (cs := #[.int .i64 0, .int .i64 0, .int .i64 0, .int .i64 0, .int .i64 0, .int .i64 0, .int .u32 0, .int .u32 0, .string (⟨#[]⟩ : ByteArray)]) (t := 24) ?hr ?_; (case hd => rfl); (case hg => rfl); (case hr => first | (go_simp; done) | (go_simp; rfl))
                          intro gb441 hg w57 hbox hb
                          have n0_ := Aside0.mk (Kd.R_below (by (with_reducible repeat (first | apply Kd.R_alloc | apply Kd.R_drewN | apply Kd.R_drew)); exact HO429.out) hb)
                          have n1_ := Aside0.mk (blk_below (g := gb402) (o := .cells #[.int .i64 t391, .int .i64 t392, .int .i64 t393, .int .i64 t394, .int .i64 t395, .int .i64 t396, .int .u32 t397, .int .u32 t398, .string t399] 24 (0, 0)) (BD BK402) hb)
                          have n2_ := Aside0.mk (blk_below (g := gb414) (o := .cells #[.int .i64 t403, .int .i64 t404, .int .i64 t405, .int .i64 t406, .int .i64 t407, .int .i64 t408, .int .u32 t409, .int .u32 t410, .string t411] 24 (0, 0)) (BD BK414) hb)
                          have n3_ := Aside0.mk (blk_below (g := gb426) (o := .cells #[.int .i64 t415, .int .i64 t416, .int .i64 t417, .int .i64 t418, .int .i64 t419, .int .i64 t420, .int .u32 t421, .int .u32 t422, .string t423] 24 (0, 0)) (BD BK426) hb)
                          have n4_ := Aside0.mk (below_step (BW HB) hb)
                          have n5_ := Aside0.mk (hbox)
                          have n6_ := Aside0.mk ((by rw [hg]; exact (below_size (BW HB)) : w.heap.size ≤ gb441))
                          have n7_ := Aside0.mk ((by rw [hg]; exact (below_size (BW HB)) : w.heap.size ≤ gb441))
                          have n8_ := Aside0.mk ((by rw [hg]; exact Nat.ne_of_lt (blk_lt (g := gb402) (o := .cells #[.int .i64 t391, .int .i64 t392, .int .i64 t393, .int .i64 t394, .int .i64 t395, .int .i64 t396, .int .u32 t397, .int .u32 t398, .string t399] 24 (0, 0)) (BD BK402)) : gb402 ≠ gb441))
                          have n9_ := Aside0.mk ((by rw [hg]; exact Nat.ne_of_gt (blk_lt (g := gb402) (o := .cells #[.int .i64 t391, .int .i64 t392, .int .i64 t393, .int .i64 t394, .int .i64 t395, .int .i64 t396, .int .u32 t397, .int .u32 t398, .string t399] 24 (0, 0)) (BD BK402)) : gb441 ≠ gb402))
                          have n10_ := Aside0.mk ((by rw [hg]; exact Nat.ne_of_lt (blk_lt (g := gb414) (o := .cells #[.int .i64 t403, .int .i64 t404, .int .i64 t405, .int .i64 t406, .int .i64 t407, .int .i64 t408, .int .u32 t409, .int .u32 t410, .string t411] 24 (0, 0)) (BD BK414)) : gb414 ≠ gb441))
                          have n11_ := Aside0.mk ((by rw [hg]; exact Nat.ne_of_gt (blk_lt (g := gb414) (o := .cells #[.int .i64 t403, .int .i64 t404, .int .i64 t405, .int .i64 t406, .int .i64 t407, .int .i64 t408, .int .u32 t409, .int .u32 t410, .string t411] 24 (0, 0)) (BD BK414)) : gb441 ≠ gb414))
                          have n12_ := Aside0.mk ((by rw [hg]; exact Nat.ne_of_lt (blk_lt (g := gb426) (o := .cells #[.int .i64 t415, .int .i64 t416, .int .i64 t417, .int .i64 t418, .int .i64 t419, .int .i64 t420, .int .u32 t421, .int .u32 t422, .string t423] 24 (0, 0)) (BD BK426)) : gb426 ≠ gb441))
                          have n13_ := Aside0.mk ((by rw [hg]; exact Nat.ne_of_gt (blk_lt (g := gb426) (o := .cells #[.int .i64 t415, .int .i64 t416, .int .i64 t417, .int .i64 t418, .int .i64 t419, .int .i64 t420, .int .u32 t421, .int .u32 t422, .string t423] 24 (0, 0)) (BD BK426)) : gb441 ≠ gb426))
                          clear HO429
                          clear BK402
                          clear BK414
                          clear BK426
                          clear HB
                          have HO429 := n0_
                          have BK402 := n1_
                          have BK414 := n2_
                          have BK426 := n3_
                          have HB := n4_
                          have BK441 := n5_
                          have GW441 := n6_
                          have GE441 := n7_
                          have NB402_441 := n8_
                          have NB441_402 := n9_
                          have NB414_441 := n10_
                          have NB441_414 := n11_
                          have NB426_441 := n12_
                          have NB441_426 := n13_
                          clear n0_ n1_ n2_ n3_ n4_ n5_ n6_ n7_ n8_ n9_ n10_ n11_ n12_ n13_
                          clear hb hbox hg
                          refine hK.out _ _ trivial (fun hHeld => ?_)
                          clear hK K
                          refine norm_ (a' := ?_) ?_ ?_
                          rotate_left
                          ·show Act.put _ (some 19) _ = _
                           simp only [Act.put, zpA, zpO, zpS, i64_w, i32_w]
                           rfl
                          exact norm_ (by simp only [putAll, Act.put, List.setIfInBounds_toArray, List.set_cons_zero, List.set_cons_succ]) (hCont (v428, gb441) _ ⟨(by (with_reducible repeat (first | apply Kd.R_alloc | apply Kd.R_drewN | apply Kd.R_drew)); exact HO429.out), (BD BK402), (BD BK414), (BD BK426), (BD BK441), GW441.out, GE441.out, NB402_441.out, NB441_402.out, NB414_441.out, NB441_414.out, NB426_441.out, NB441_426.out, (BW HB)⟩)
                         ·skip
                          refine box_step ?hg (N := 19) ?hd (cs := #[.int .i64 0, .int .i64 0, .int .i64 0, .int .i64 0, .int .i64 0, .int .i64 0, .int .u32 0, .int .u32 0, .string (⟨#[]⟩ : ByteArray)]) (t := 24) ?hr ?_; (case hd => rfl); (case hg => rfl); (case hr => first | (go_simp; done) | (go_simp; rfl))
                          intro gb441 hg w56 hbox hb
                          have n0_ := Aside0.mk (Kd.R_below (by (with_reducible repeat (first | apply Kd.R_alloc | apply Kd.R_drewN | apply Kd.R_drew)); exact HO429.out) hb)
                          have n1_ := Aside0.mk (blk_below (g := gb402) (o := .cells #[.int .i64 t391, .int .i64 t392, .int .i64 t393, .int .i64 t394, .int .i64 t395, .int .i64 t396, .int .u32 t397, .int .u32 t398, .string t399] 24 (0, 0)) (BD BK402) hb)
                          have n2_ := Aside0.mk (blk_below (g := gb414) (o := .cells #[.int .i64 t403, .int .i64 t404, .int .i64 t405, .int .i64 t406, .int .i64 t407, .int .i64 t408, .int .u32 t409, .int .u32 t410, .string t411] 24 (0, 0)) (BD BK414) hb)
                          have n3_ := Aside0.mk (blk_below (g := gb426) (o := .cells #[.int .i64 t415, .int .i64 t416, .int .i64 t417, .int .i64 t418, .int .i64 t419, .int .i64 t420, .int .u32 t421, .int .u32 t422, .string t423] 24 (0, 0)) (BD BK426) hb)
                          have n4_ := Aside0.mk (below_step (BW HB) hb)
                          have n5_ := Aside0.mk (hbox)
                          have n6_ := Aside0.mk ((by rw [hg]; exact (below_size (BW HB)) : w.heap.size ≤ gb441))
                          have n7_ := Aside0.mk ((by rw [hg]; exact (below_size (BW HB)) : w.heap.size ≤ gb441))
                          have n8_ := Aside0.mk ((by rw [hg]; exact Nat.ne_of_lt (blk_lt (g := gb402) (o := .cells #[.int .i64 t391, .int .i64 t392, .int .i64 t393, .int .i64 t394, .int .i64 t395, .int .i64 t396, .int .u32 t397, .int .u32 t398, .string t399] 24 (0, 0)) (BD BK402)) : gb402 ≠ gb441))
                          have n9_ := Aside0.mk ((by rw [hg]; exact Nat.ne_of_gt (blk_lt (g := gb402) (o := .cells #[.int .i64 t391, .int .i64 t392, .int .i64 t393, .int .i64 t394, .int .i64 t395, .int .i64 t396, .int .u32 t397, .int .u32 t398, .string t399] 24 (0, 0)) (BD BK402)) : gb441 ≠ gb402))
                          have n10_ := Aside0.mk ((by rw [hg]; exact Nat.ne_of_lt (blk_lt (g := gb414) (o := .cells #[.int .i64 t403, .int .i64 t404, .int .i64 t405, .int .i64 t406, .int .i64 t407, .int .i64 t408, .int .u32 t409, .int .u32 t410, .string t411] 24 (0, 0)) (BD BK414)) : gb414 ≠ gb441))
                          have n11_ := Aside0.mk ((by rw [hg]; exact Nat.ne_of_gt (blk_lt (g := gb414) (o := .cells #[.int .i64 t403, .int .i64 t404, .int .i64 t405, .int .i64 t406, .int .i64 t407, .int .i64 t408, .int .u32 t409, .int .u32 t410, .string t411] 24 (0, 0)) (BD BK414)) : gb441 ≠ gb414))
                          have n12_ := Aside0.mk ((by rw [hg]; exact Nat.ne_of_lt (blk_lt (g := gb426) (o := .cells #[.int .i64 t415, .int .i64 t416, .int .i64 t417, .int .i64 t418, .int .i64 t419, .int .i64 t420, .int .u32 t421, .int .u32 t422, .string t423] 24 (0, 0)) (BD BK426)) : gb426 ≠ gb441))
                          have n13_ := Aside0.mk ((by rw [hg]; exact Nat.ne_of_gt (blk_lt (g := gb426) (o := .cells #[.int .i64 t415, .int .i64 t416, .int .i64 t417, .int .i64 t418, .int .i64 t419, .int .i64 t420, .int .u32 t421, .int .u32 t422, .string t423] 24 (0, 0)) (BD BK426)) : gb441 ≠ gb426))
                          clear HO429
                          clear BK402
                          clear BK414
                          clear BK426
                          clear HB
                          have HO429 := n0_
                          have BK402 := n1_
                          have BK414 := n2_
                          have BK426 := n3_
                          have HB := n4_
                          have BK441 := n5_
                          have GW441 := n6_
                          have GE441 := n7_
                          have NB402_441 := n8_
                          have NB441_402 := n9_
                          have NB414_441 := n10_
                          have NB441_414 := n11_
                          have NB426_441 := n12_
                          have NB441_426 := n13_
                          clear n0_ n1_ n2_ n3_ n4_ n5_ n6_ n7_ n8_ n9_ n10_ n11_ n12_ n13_
                          clear hb hbox hg
                          refine hK.out _ _ trivial (fun hHeld => ?_)
                          clear hK K
                          refine norm_ (a' := ?_) ?_ ?_
                          rotate_left
                          ·show Act.put _ (some 19) _ = _
                           simp only [Act.put, zpA, zpO, zpS, i64_w, i32_w]
                           rfl
                          refine one_ (i := 11) (N := some 95) (bm 20 0x10fff) rfl rfl (one_of HT_.out (by kernel_rfl)) (by decide) (fun K hK => ?_)
                          refine goes_ Try.func18 (by kernel_rfl) rfl #[.string (((t389.extract 0 10) ++ (strOfNums y427)) ++ (t389.extract 11 t389.size))] (by rfl) rfl rfl (by (try simp only [List.map_toArray, List.map_cons, List.map_nil]); first | done | rfl | (simp only [Int.toNat_natCast]; first | done | rfl) | (rw [Int.toNat_natCast, ByteArray.extract_zero_size]; rfl) | (simp only [List.length_drop, List.length_take]; rfl)) ?_
                          with_reducible refine (ip4_Parse.calls (((t389.extract 0 10) ++ (strOfNums y427)) ++ (t389.extract 11 t389.size)) t430 t431 t432 t433 t434 t435 t436 t437 t438 t439 t440 _ A37.out).mono ?_
                          rintro e w57 ⟨rfl, hb⟩
                          refine ⟨_, rfl, ?_⟩
                          have n0_ := Aside0.mk (Kd.R_below (by (with_reducible repeat (first | apply Kd.R_alloc | apply Kd.R_drewN | apply Kd.R_drew)); exact HO429.out) hb)
                          have n1_ := Aside0.mk (blk_below (g := gb402) (o := .cells #[.int .i64 t391, .int .i64 t392, .int .i64 t393, .int .i64 t394, .int .i64 t395, .int .i64 t396, .int .u32 t397, .int .u32 t398, .string t399] 24 (0, 0)) (BD BK402) hb)
                          have n2_ := Aside0.mk (blk_below (g := gb414) (o := .cells #[.int .i64 t403, .int .i64 t404, .int .i64 t405, .int .i64 t406, .int .i64 t407, .int .i64 t408, .int .u32 t409, .int .u32 t410, .string t411] 24 (0, 0)) (BD BK414) hb)
                          have n3_ := Aside0.mk (blk_below (g := gb426) (o := .cells #[.int .i64 t415, .int .i64 t416, .int .i64 t417, .int .i64 t418, .int .i64 t419, .int .i64 t420, .int .u32 t421, .int .u32 t422, .string t423] 24 (0, 0)) (BD BK426) hb)
                          have n4_ := Aside0.mk (blk_below (g := gb441) (o := .cells #[.int .i64 0, .int .i64 0, .int .i64 0, .int .i64 0, .int .i64 0, .int .i64 0, .int .u32 0, .int .u32 0, .string (⟨#[]⟩ : ByteArray)] 24 (0, 0)) (BD BK441) hb)
                          have n5_ := Aside0.mk (below_step (BW HB) hb)
                          clear HO429
                          clear BK402
                          clear BK414
                          clear BK426
                          clear BK441
                          clear HB
                          have HO429 := n0_
                          have BK402 := n1_
                          have BK414 := n2_
                          have BK426 := n3_
                          have BK441 := n4_
                          have HB := n5_
                          clear n0_ n1_ n2_ n3_ n4_ n5_
                          (try clear hb)
                          (try clear hb2)
                          (try clear hk)
                          (try clear hi)
                          refine hK.out _ _ trivial (fun hHeld => ?_)
                          clear hK K
                          refine norm_ (a' := ?_) ?_ ?_
                          rotate_left
                          ·show Act.put _ (some 95) _ = _
                           simp only [Act.put, zpA, zpO, zpS, i64_w, i32_w]
                           rfl
                          refine pure_ (i := 12) (N := some 83) (v := ?_) (a' := ?_) (bm 20 0x11fff) rfl rfl (any_of HT_.out (by kernel_rfl)) (fun _ _ _ h => h) (Or.inl ⟨by rfl, ?_⟩) ?_ ?_
                          rotate_left
                          ·intro w'
                           go_simp
                           with_reducible rfl
                          rotate_left
                          ·simp only [Act.put, zpA, zpO, zpS, i64_w, i32_w]
                           rfl
                          refine pure_ (i := 13) (N := some 96) (v := ?_) (a' := ?_) (bm 20 0x13fff) rfl rfl (any_of HT_.out (by kernel_rfl)) (fun _ _ _ h => h) (Or.inl ⟨by rfl, ?_⟩) ?_ ?_
                          rotate_left
                          ·intro w'
                           go_simp
                           with_reducible rfl
                          rotate_left
                          ·simp only [Act.put, zpA, zpO, zpS, i64_w, i32_w]
                           rfl
                          refine pure_ (i := 14) (N := some 97) (v := ?_) (a' := ?_) (bm 20 0x17fff) rfl rfl (any_of HT_.out (by kernel_rfl)) (fun _ _ _ h => h) (Or.inl ⟨by rfl, ?_⟩) ?_ ?_
                          rotate_left
                          ·intro w'
                           go_simp
                           with_reducible rfl
                          rotate_left
                          ·simp only [Act.put, zpA, zpO, zpS, i64_w, i32_w]
                           rfl
                          refine pure_ (i := 15) (N := some 98) (v := ?_) (a' := ?_) (bm 20 0x1ffff) rfl rfl (any_of HT_.out (by kernel_rfl)) (fun _ _ _ h => h) (Or.inl ⟨by rfl, ?_⟩) ?_ ?_
                          rotate_left
                          ·intro w'
                           go_simp
                           with_reducible rfl
                          rotate_left
                          ·simp only [Act.put, zpA, zpO, zpS, i64_w, i32_w]
                           rfl
                          exact norm_ (by simp only [putAll, Act.put, List.setIfInBounds_toArray, List.set_cons_zero, List.set_cons_succ]) (hCont (v428, gb441) _ ⟨(by (with_reducible repeat (first | apply Kd.R_alloc | apply Kd.R_drewN | apply Kd.R_drew)); exact HO429.out), (BD BK402), (BD BK414), (BD BK426), (BD BK441), GW441.out, GE441.out, NB402_441.out, NB441_402.out, NB414_441.out, NB441_414.out, NB426_441.out, NB441_426.out, (BW HB)⟩)
                        ·skip
                         refine box_step ?hg (N := 19) ?hd (cs := #[.int .i64 0, .int .i64 0, .int .i64 0, .int .i64 0, .int .i64 0, .int .i64 0, .int .u32 0, .int .u32 0, .string (⟨#[]⟩ : ByteArray)]) (t := 24) ?hr ?_; (case hd => rfl); (case hg => rfl); (case hr => first | (go_simp; done) | (go_simp; rfl))
                         intro gb441 hg w55 hbox hb
                         have n0_ := Aside0.mk (Kd.R_below (by (with_reducible repeat (first | apply Kd.R_alloc | apply Kd.R_drewN | apply Kd.R_drew)); exact HO429.out) hb)
                         have n1_ := Aside0.mk (blk_below (g := gb402) (o := .cells #[.int .i64 t391, .int .i64 t392, .int .i64 t393, .int .i64 t394, .int .i64 t395, .int .i64 t396, .int .u32 t397, .int .u32 t398, .string t399] 24 (0, 0)) (BD BK402) hb)
                         have n2_ := Aside0.mk (blk_below (g := gb414) (o := .cells #[.int .i64 t403, .int .i64 t404, .int .i64 t405, .int .i64 t406, .int .i64 t407, .int .i64 t408, .int .u32 t409, .int .u32 t410, .string t411] 24 (0, 0)) (BD BK414) hb)
                         have n3_ := Aside0.mk (blk_below (g := gb426) (o := .cells #[.int .i64 t415, .int .i64 t416, .int .i64 t417, .int .i64 t418, .int .i64 t419, .int .i64 t420, .int .u32 t421, .int .u32 t422, .string t423] 24 (0, 0)) (BD BK426) hb)
                         have n4_ := Aside0.mk (below_step (BW HB) hb)
                         have n5_ := Aside0.mk (hbox)
                         have n6_ := Aside0.mk ((by rw [hg]; exact (below_size (BW HB)) : w.heap.size ≤ gb441))
                         have n7_ := Aside0.mk ((by rw [hg]; exact (below_size (BW HB)) : w.heap.size ≤ gb441))
                         have n8_ := Aside0.mk ((by rw [hg]; exact Nat.ne_of_lt (blk_lt (g := gb402) (o := .cells #[.int .i64 t391, .int .i64 t392, .int .i64 t393, .int .i64 t394, .int .i64 t395, .int .i64 t396, .int .u32 t397, .int .u32 t398, .string t399] 24 (0, 0)) (BD BK402)) : gb402 ≠ gb441))
                         have n9_ := Aside0.mk ((by rw [hg]; exact Nat.ne_of_gt (blk_lt (g := gb402) (o := .cells #[.int .i64 t391, .int .i64 t392, .int .i64 t393, .int .i64 t394, .int .i64 t395, .int .i64 t396, .int .u32 t397, .int .u32 t398, .string t399] 24 (0, 0)) (BD BK402)) : gb441 ≠ gb402))
                         have n10_ := Aside0.mk ((by rw [hg]; exact Nat.ne_of_lt (blk_lt (g := gb414) (o := .cells #[.int .i64 t403, .int .i64 t404, .int .i64 t405, .int .i64 t406, .int .i64 t407, .int .i64 t408, .int .u32 t409, .int .u32 t410, .string t411] 24 (0, 0)) (BD BK414)) : gb414 ≠ gb441))
                         have n11_ := Aside0.mk ((by rw [hg]; exact Nat.ne_of_gt (blk_lt (g := gb414) (o := .cells #[.int .i64 t403, .int .i64 t404, .int .i64 t405, .int .i64 t406, .int .i64 t407, .int .i64 t408, .int .u32 t409, .int .u32 t410, .string t411] 24 (0, 0)) (BD BK414)) : gb441 ≠ gb414))
                         have n12_ := Aside0.mk ((by rw [hg]; exact Nat.ne_of_lt (blk_lt (g := gb426) (o := .cells #[.int .i64 t415, .int .i64 t416, .int .i64 t417, .int .i64 t418, .int .i64 t419, .int .i64 t420, .int .u32 t421, .int .u32 t422, .string t423] 24 (0, 0)) (BD BK426)) : gb426 ≠ gb441))
                         have n13_ := Aside0.mk ((by rw [hg]; exact Nat.ne_of_gt (blk_lt (g := gb426) (o := .cells #[.int .i64 t415, .int .i64 t416, .int .i64 t417, .int .i64 t418, .int .i64 t419, .int .i64 t420, .int .u32 t421, .int .u32 t422, .string t423] 24 (0, 0)) (BD BK426)) : gb441 ≠ gb426))
                         clear HO429
                         clear BK402
                         clear BK414
                         clear BK426
                         clear HB
                         have HO429 := n0_
                         have BK402 := n1_
                         have BK414 := n2_
                         have BK426 := n3_
                         have HB := n4_
                         have BK441 := n5_
                         have GW441 := n6_
                         have GE441 := n7_
                         have NB402_441 := n8_
                         have NB441_402 := n9_
                         have NB414_441 := n10_
                         have NB441_414 := n11_
                         have NB426_441 := n12_
                         have NB441_426 := n13_
                         clear n0_ n1_ n2_ n3_ n4_ n5_ n6_ n7_ n8_ n9_ n10_ n11_ n12_ n13_
                         clear hb hbox hg
                         refine hK.out _ _ trivial (fun hHeld => ?_)
                         clear hK K
                         refine norm_ (a' := ?_) ?_ ?_
                         rotate_left
                         ·show Act.put _ (some 19) _ = _
                          simp only [Act.put, zpA, zpO, zpS, i64_w, i32_w]
                          rfl
                         refine one_ (i := 6) (N := some 90) (bm 20 0x1037f) rfl rfl (one_of HT_.out (by kernel_rfl)) (by decide) (fun K hK => ?_)
                         have hcv56 := own_string (P := Try.prog) Try.underlying42 Try.underlying5 Try.underlying9 (Kd.own_of_R HO429.out)
                         refine value_ (w1 := ?_) (v := ?_) (by rfl) rfl ?_ ?_
                         rotate_left 2
                         ·go_simp
                          constructor
                          ·rfl
                          ·rfl
                         clear hcv56
                         refine hK.out _ _ trivial (fun hHeld => ?_)
                         clear hK K
                         refine norm_ (a' := ?_) ?_ ?_
                         rotate_left
                         ·show Act.put _ (some 90) _ = _
                          simp only [Act.put, zpA, zpO, zpS, i64_w, i32_w]
                          rfl
                         refine pure_ (i := 7) (N := some 91) (v := ?_) (a' := ?_) (bm 20 0x103ff) rfl rfl (any_of HT_.out (by kernel_rfl)) (fun _ _ _ h => h) (Or.inl ⟨by rfl, ?_⟩) ?_ ?_
                         rotate_left
                         ·intro w'
                          go_simp
                          with_reducible rfl
                         rotate_left
                         ·simp only [Act.put, zpA, zpO, zpS, i64_w, i32_w]
                          rfl
                         refine pure_ (i := 10) (N := some 94) (v := ?_) (a' := ?_) (bm 20 0x107ff) rfl rfl (any_of HT_.out (by kernel_rfl)) (fun _ _ _ h => h) (Or.inl ⟨by rfl, ?_⟩) ?_ ?_
                         rotate_left
                         ·intro w'
                          go_simp
                          with_reducible rfl
                         rotate_left
                         ·simp only [Act.put, zpA, zpO, zpS, i64_w, i32_w]
                          rfl
                         refine one_ (i := 11) (N := some 95) (bm 20 0x10fff) rfl rfl (one_of HT_.out (by kernel_rfl)) (by decide) (fun K hK => ?_)
                         refine goes_ Try.func18 (by kernel_rfl) rfl #[.string (((t389.extract 0 10) ++ (strOfNums y427)) ++ (t389.extract 11 t389.size))] (by rfl) rfl rfl (by (try simp only [List.map_toArray, List.map_cons, List.map_nil]); first | done | rfl | (simp only [Int.toNat_natCast]; first | done | rfl) | (rw [Int.toNat_natCast, ByteArray.extract_zero_size]; rfl) | (simp only [List.length_drop, List.length_take]; rfl)) ?_
                         with_reducible refine (ip4_Parse.calls (((t389.extract 0 10) ++ (strOfNums y427)) ++ (t389.extract 11 t389.size)) t430 t431 t432 t433 t434 t435 t436 t437 t438 t439 t440 _ A37.out).mono ?_
                         rintro e w57 ⟨rfl, hb⟩
                         refine ⟨_, rfl, ?_⟩
                         have n0_ := Aside0.mk (Kd.R_below (by (with_reducible repeat (first | apply Kd.R_alloc | apply Kd.R_drewN | apply Kd.R_drew)); exact HO429.out) hb)
                         have n1_ := Aside0.mk (blk_below (g := gb402) (o := .cells #[.int .i64 t391, .int .i64 t392, .int .i64 t393, .int .i64 t394, .int .i64 t395, .int .i64 t396, .int .u32 t397, .int .u32 t398, .string t399] 24 (0, 0)) (BD BK402) hb)
                         have n2_ := Aside0.mk (blk_below (g := gb414) (o := .cells #[.int .i64 t403, .int .i64 t404, .int .i64 t405, .int .i64 t406, .int .i64 t407, .int .i64 t408, .int .u32 t409, .int .u32 t410, .string t411] 24 (0, 0)) (BD BK414) hb)
                         have n3_ := Aside0.mk (blk_below (g := gb426) (o := .cells #[.int .i64 t415, .int .i64 t416, .int .i64 t417, .int .i64 t418, .int .i64 t419, .int .i64 t420, .int .u32 t421, .int .u32 t422, .string t423] 24 (0, 0)) (BD BK426) hb)
                         have n4_ := Aside0.mk (blk_below (g := gb441) (o := .cells #[.int .i64 0, .int .i64 0, .int .i64 0, .int .i64 0, .int .i64 0, .int .i64 0, .int .u32 0, .int .u32 0, .string (⟨#[]⟩ : ByteArray)] 24 (0, 0)) (BD BK441) hb)
                         have n5_ := Aside0.mk (below_step (BW HB) hb)
                         clear HO429
                         clear BK402
                         clear BK414
                         clear BK426
                         clear BK441
                         clear HB
                         have HO429 := n0_
                         have BK402 := n1_
                         have BK414 := n2_
                         have BK426 := n3_
                         have BK441 := n4_
                         have HB := n5_
                         clear n0_ n1_ n2_ n3_ n4_ n5_
                         (try clear hb)
                         (try clear hb2)
                         (try clear hk)
                         (try clear hi)
                         refine hK.out _ _ trivial (fun hHeld => ?_)
                         clear hK K
                         refine norm_ (a' := ?_) ?_ ?_
                         rotate_left
                         ·show Act.put _ (some 95) _ = _
                          simp only [Act.put, zpA, zpO, zpS, i64_w, i32_w]
                          rfl
                         refine pure_ (i := 12) (N := some 83) (v := ?_) (a' := ?_) (bm 20 0x11fff) rfl rfl (any_of HT_.out (by kernel_rfl)) (fun _ _ _ h => h) (Or.inl ⟨by rfl, ?_⟩) ?_ ?_
                         rotate_left
                         ·intro w'
                          go_simp
                          with_reducible rfl
                         rotate_left
                         ·simp only [Act.put, zpA, zpO, zpS, i64_w, i32_w]
                          rfl
                         refine pure_ (i := 13) (N := some 96) (v := ?_) (a' := ?_) (bm 20 0x13fff) rfl rfl (any_of HT_.out (by kernel_rfl)) (fun _ _ _ h => h) (Or.inl ⟨by rfl, ?_⟩) ?_ ?_
                         rotate_left
                         ·intro w'
                          go_simp
                          with_reducible rfl
                         rotate_left
                         ·simp only [Act.put, zpA, zpO, zpS, i64_w, i32_w]
                          rfl
                         refine pure_ (i := 14) (N := some 97) (v := ?_) (a' := ?_) (bm 20 0x17fff) rfl rfl (any_of HT_.out (by kernel_rfl)) (fun _ _ _ h => h) (Or.inl ⟨by rfl, ?_⟩) ?_ ?_
                         rotate_left
                         ·intro w'
                          go_simp
                          with_reducible rfl
                         rotate_left
                         ·simp only [Act.put, zpA, zpO, zpS, i64_w, i32_w]
                          rfl
                         refine pure_ (i := 15) (N := some 98) (v := ?_) (a' := ?_) (bm 20 0x1ffff) rfl rfl (any_of HT_.out (by kernel_rfl)) (fun _ _ _ h => h) (Or.inl ⟨by rfl, ?_⟩) ?_ ?_
                         rotate_left
                         ·intro w'
                          go_simp
                          with_reducible rfl
                         rotate_left
                         ·simp only [Act.put, zpA, zpO, zpS, i64_w, i32_w]
                          rfl
                         exact norm_ (by simp only [putAll, Act.put, List.setIfInBounds_toArray, List.set_cons_zero, List.set_cons_succ]) (hCont (v428, gb441) _ ⟨(by (with_reducible repeat (first | apply Kd.R_alloc | apply Kd.R_drewN | apply Kd.R_drew)); exact HO429.out), (BD BK402), (BD BK414), (BD BK426), (BD BK441), GW441.out, GE441.out, NB402_441.out, NB441_402.out, NB414_441.out, NB441_414.out, NB426_441.out, NB441_426.out, (BW HB)⟩)
                       ·skip
                        refine box_step ?hg (N := 19) ?hd (cs := #[.int .i64 0, .int .i64 0, .int .i64 0, .int .i64 0, .int .i64 0, .int .i64 0, .int .u32 0, .int .u32 0, .string (⟨#[]⟩ : ByteArray)]) (t := 24) ?hr ?_; (case hd => rfl); (case hg => rfl); (case hr => first | (go_simp; done) | (go_simp; rfl))
                        intro gb441 hg w53 hbox hb
                        have n0_ := Aside0.mk (blk_below (g := gb402) (o := .cells #[.int .i64 t391, .int .i64 t392, .int .i64 t393, .int .i64 t394, .int .i64 t395, .int .i64 t396, .int .u32 t397, .int .u32 t398, .string t399] 24 (0, 0)) (BD BK402) hb)
                        have n1_ := Aside0.mk (blk_below (g := gb414) (o := .cells #[.int .i64 t403, .int .i64 t404, .int .i64 t405, .int .i64 t406, .int .i64 t407, .int .i64 t408, .int .u32 t409, .int .u32 t410, .string t411] 24 (0, 0)) (BD BK414) hb)
                        have n2_ := Aside0.mk (blk_below (g := gb426) (o := .cells #[.int .i64 t415, .int .i64 t416, .int .i64 t417, .int .i64 t418, .int .i64 t419, .int .i64 t420, .int .u32 t421, .int .u32 t422, .string t423] 24 (0, 0)) (BD BK426) hb)
                        have n3_ := Aside0.mk (below_step (BW HB) hb)
                        have n4_ := Aside0.mk (hbox)
                        have n5_ := Aside0.mk ((by rw [hg]; exact (below_size (BW HB)) : w.heap.size ≤ gb441))
                        have n6_ := Aside0.mk ((by rw [hg]; exact (below_size (BW HB)) : w.heap.size ≤ gb441))
                        have n7_ := Aside0.mk ((by rw [hg]; exact Nat.ne_of_lt (blk_lt (g := gb402) (o := .cells #[.int .i64 t391, .int .i64 t392, .int .i64 t393, .int .i64 t394, .int .i64 t395, .int .i64 t396, .int .u32 t397, .int .u32 t398, .string t399] 24 (0, 0)) (BD BK402)) : gb402 ≠ gb441))
                        have n8_ := Aside0.mk ((by rw [hg]; exact Nat.ne_of_gt (blk_lt (g := gb402) (o := .cells #[.int .i64 t391, .int .i64 t392, .int .i64 t393, .int .i64 t394, .int .i64 t395, .int .i64 t396, .int .u32 t397, .int .u32 t398, .string t399] 24 (0, 0)) (BD BK402)) : gb441 ≠ gb402))
                        have n9_ := Aside0.mk ((by rw [hg]; exact Nat.ne_of_lt (blk_lt (g := gb414) (o := .cells #[.int .i64 t403, .int .i64 t404, .int .i64 t405, .int .i64 t406, .int .i64 t407, .int .i64 t408, .int .u32 t409, .int .u32 t410, .string t411] 24 (0, 0)) (BD BK414)) : gb414 ≠ gb441))
                        have n10_ := Aside0.mk ((by rw [hg]; exact Nat.ne_of_gt (blk_lt (g := gb414) (o := .cells #[.int .i64 t403, .int .i64 t404, .int .i64 t405, .int .i64 t406, .int .i64 t407, .int .i64 t408, .int .u32 t409, .int .u32 t410, .string t411] 24 (0, 0)) (BD BK414)) : gb441 ≠ gb414))
                        have n11_ := Aside0.mk ((by rw [hg]; exact Nat.ne_of_lt (blk_lt (g := gb426) (o := .cells #[.int .i64 t415, .int .i64 t416, .int .i64 t417, .int .i64 t418, .int .i64 t419, .int .i64 t420, .int .u32 t421, .int .u32 t422, .string t423] 24 (0, 0)) (BD BK426)) : gb426 ≠ gb441))
                        have n12_ := Aside0.mk ((by rw [hg]; exact Nat.ne_of_gt (blk_lt (g := gb426) (o := .cells #[.int .i64 t415, .int .i64 t416, .int .i64 t417, .int .i64 t418, .int .i64 t419, .int .i64 t420, .int .u32 t421, .int .u32 t422, .string t423] 24 (0, 0)) (BD BK426)) : gb441 ≠ gb426))
                        clear BK402
                        clear BK414
                        clear BK426
                        clear HB
                        have BK402 := n0_
                        have BK414 := n1_
                        have BK426 := n2_
                        have HB := n3_
                        have BK441 := n4_
                        have GW441 := n5_
                        have GE441 := n6_
                        have NB402_441 := n7_
                        have NB441_402 := n8_
                        have NB414_441 := n9_
                        have NB441_414 := n10_
                        have NB426_441 := n11_
                        have NB441_426 := n12_
                        clear n0_ n1_ n2_ n3_ n4_ n5_ n6_ n7_ n8_ n9_ n10_ n11_ n12_
                        clear hb hbox hg
                        refine hK.out _ _ trivial (fun hHeld => ?_)
                        clear hK K
                        refine norm_ (a' := ?_) ?_ ?_
                        rotate_left
                        ·show Act.put _ (some 19) _ = _
                         simp only [Act.put, zpA, zpO, zpS, i64_w, i32_w]
                         rfl
                        refine one_ (i := 5) (N := some 89) (bm 20 0x1033f) rfl rfl (one_of HT_.out (by kernel_rfl)) (by decide) (fun K hK => ?_)
                        refine Kd.R_lit_step (Kd.int .u8) _ 5 ?hg (N := 89) ?hd (xs := ([Go.bits .xor .u8 (bt t389 10) 1] : List Int)) (inner := [.int .u8 (Go.bits .xor .u8 (bt t389 10) 1)]) (ok := fun _ => True) (okp := fun _ => True) ?hr ?hp (fun _ hk => hk) trivial (Below.refl _ _) (Nat.le_refl _) (by simp) ?_; (case hd => rfl); (case hg => rfl); (case hr => first | (go_simp; done) | (go_simp; rfl)); (case hp => exact (Reps.one (show Kd.M (Kd.int .u8) _ _ _ (Go.bits .xor .u8 (bt t389 10) 1) [.int .u8 (Go.bits .xor .u8 (bt t389 10) 1)] from rfl) (Reps.none _ _)))
                        intro v428 w54 ho55 hb hg_ hnew_
                        clear hg_ hnew_
                        (first | rw [← Ny427.out] at ho55 | (simp only [Int.reduceToNat] at ho55; rw [← Ny427.out] at ho55))
                        have n0_ := Aside0.mk (Kd.R_lower ho55 (below_size (BW HB)))
                        have n1_ := Aside0.mk (blk_below (g := gb402) (o := .cells #[.int .i64 t391, .int .i64 t392, .int .i64 t393, .int .i64 t394, .int .i64 t395, .int .i64 t396, .int .u32 t397, .int .u32 t398, .string t399] 24 (0, 0)) (BD BK402) hb)
                        have n2_ := Aside0.mk (blk_below (g := gb414) (o := .cells #[.int .i64 t403, .int .i64 t404, .int .i64 t405, .int .i64 t406, .int .i64 t407, .int .i64 t408, .int .u32 t409, .int .u32 t410, .string t411] 24 (0, 0)) (BD BK414) hb)
                        have n3_ := Aside0.mk (blk_below (g := gb426) (o := .cells #[.int .i64 t415, .int .i64 t416, .int .i64 t417, .int .i64 t418, .int .i64 t419, .int .i64 t420, .int .u32 t421, .int .u32 t422, .string t423] 24 (0, 0)) (BD BK426) hb)
                        have n4_ := Aside0.mk (blk_below (g := gb441) (o := .cells #[.int .i64 0, .int .i64 0, .int .i64 0, .int .i64 0, .int .i64 0, .int .i64 0, .int .u32 0, .int .u32 0, .string (⟨#[]⟩ : ByteArray)] 24 (0, 0)) (BD BK441) hb)
                        have n5_ := Aside0.mk (below_step (BW HB) hb)
                        clear BK402
                        clear BK414
                        clear BK426
                        clear BK441
                        clear HB
                        have HO429 := n0_
                        have BK402 := n1_
                        have BK414 := n2_
                        have BK426 := n3_
                        have BK441 := n4_
                        have HB := n5_
                        clear n0_ n1_ n2_ n3_ n4_ n5_
                        clear hb ho55
                        refine hK.out _ _ trivial (fun hHeld => ?_)
                        clear hK K
                        refine norm_ (a' := ?_) ?_ ?_
                        rotate_left
                        ·show Act.put _ (some 89) _ = _
                         simp only [Act.put, zpA, zpO, zpS, i64_w, i32_w]
                         rfl
                        refine one_ (i := 6) (N := some 90) (bm 20 0x1037f) rfl rfl (one_of HT_.out (by kernel_rfl)) (by decide) (fun K hK => ?_)
                        have hcv56 := own_string (P := Try.prog) Try.underlying42 Try.underlying5 Try.underlying9 (Kd.own_of_R HO429.out)
                        refine value_ (w1 := ?_) (v := ?_) (by rfl) rfl ?_ ?_
                        rotate_left 2
                        ·go_simp
                         constructor
                         ·rfl
                         ·rfl
                        clear hcv56
                        refine hK.out _ _ trivial (fun hHeld => ?_)
                        clear hK K
                        refine norm_ (a' := ?_) ?_ ?_
                        rotate_left
                        ·show Act.put _ (some 90) _ = _
                         simp only [Act.put, zpA, zpO, zpS, i64_w, i32_w]
                         rfl
                        refine pure_ (i := 7) (N := some 91) (v := ?_) (a' := ?_) (bm 20 0x103ff) rfl rfl (any_of HT_.out (by kernel_rfl)) (fun _ _ _ h => h) (Or.inl ⟨by rfl, ?_⟩) ?_ ?_
                        rotate_left
                        ·intro w'
                         go_simp
                         with_reducible rfl
                        rotate_left
                        ·simp only [Act.put, zpA, zpO, zpS, i64_w, i32_w]
                         rfl
                        refine pure_ (i := 10) (N := some 94) (v := ?_) (a' := ?_) (bm 20 0x107ff) rfl rfl (any_of HT_.out (by kernel_rfl)) (fun _ _ _ h => h) (Or.inl ⟨by rfl, ?_⟩) ?_ ?_
                        rotate_left
                        ·intro w'
                         go_simp
                         with_reducible rfl
                        rotate_left
                        ·simp only [Act.put, zpA, zpO, zpS, i64_w, i32_w]
                         rfl
                        refine one_ (i := 11) (N := some 95) (bm 20 0x10fff) rfl rfl (one_of HT_.out (by kernel_rfl)) (by decide) (fun K hK => ?_)
                        refine goes_ Try.func18 (by kernel_rfl) rfl #[.string (((t389.extract 0 10) ++ (strOfNums y427)) ++ (t389.extract 11 t389.size))] (by rfl) rfl rfl (by (try simp only [List.map_toArray, List.map_cons, List.map_nil]); first | done | rfl | (simp only [Int.toNat_natCast]; first | done | rfl) | (rw [Int.toNat_natCast, ByteArray.extract_zero_size]; rfl) | (simp only [List.length_drop, List.length_take]; rfl)) ?_
                        with_reducible refine (ip4_Parse.calls (((t389.extract 0 10) ++ (strOfNums y427)) ++ (t389.extract 11 t389.size)) t430 t431 t432 t433 t434 t435 t436 t437 t438 t439 t440 _ A37.out).mono ?_
                        rintro e w57 ⟨rfl, hb⟩
                        refine ⟨_, rfl, ?_⟩
                        have n0_ := Aside0.mk (Kd.R_below (by (with_reducible repeat (first | apply Kd.R_alloc | apply Kd.R_drewN | apply Kd.R_drew)); exact HO429.out) hb)
                        have n1_ := Aside0.mk (blk_below (g := gb402) (o := .cells #[.int .i64 t391, .int .i64 t392, .int .i64 t393, .int .i64 t394, .int .i64 t395, .int .i64 t396, .int .u32 t397, .int .u32 t398, .string t399] 24 (0, 0)) (BD BK402) hb)
                        have n2_ := Aside0.mk (blk_below (g := gb414) (o := .cells #[.int .i64 t403, .int .i64 t404, .int .i64 t405, .int .i64 t406, .int .i64 t407, .int .i64 t408, .int .u32 t409, .int .u32 t410, .string t411] 24 (0, 0)) (BD BK414) hb)
                        have n3_ := Aside0.mk (blk_below (g := gb426) (o := .cells #[.int .i64 t415, .int .i64 t416, .int .i64 t417, .int .i64 t418, .int .i64 t419, .int .i64 t420, .int .u32 t421, .int .u32 t422, .string t423] 24 (0, 0)) (BD BK426) hb)
                        have n4_ := Aside0.mk (blk_below (g := gb441) (o := .cells #[.int .i64 0, .int .i64 0, .int .i64 0, .int .i64 0, .int .i64 0, .int .i64 0, .int .u32 0, .int .u32 0, .string (⟨#[]⟩ : ByteArray)] 24 (0, 0)) (BD BK441) hb)
                        have n5_ := Aside0.mk (below_step (BW HB) hb)
                        clear HO429
                        clear BK402
                        clear BK414
                        clear BK426
                        clear BK441
                        clear HB
                        have HO429 := n0_
                        have BK402 := n1_
                        have BK414 := n2_
                        have BK426 := n3_
                        have BK441 := n4_
                        have HB := n5_
                        clear n0_ n1_ n2_ n3_ n4_ n5_
                        (try clear hb)
                        (try clear hb2)
                        (try clear hk)
                        (try clear hi)
                        refine hK.out _ _ trivial (fun hHeld => ?_)
                        clear hK K
                        refine norm_ (a' := ?_) ?_ ?_
                        rotate_left
                        ·show Act.put _ (some 95) _ = _
                         simp only [Act.put, zpA, zpO, zpS, i64_w, i32_w]
                         rfl
                        refine pure_ (i := 12) (N := some 83) (v := ?_) (a' := ?_) (bm 20 0x11fff) rfl rfl (any_of HT_.out (by kernel_rfl)) (fun _ _ _ h => h) (Or.inl ⟨by rfl, ?_⟩) ?_ ?_
                        rotate_left
                        ·intro w'
                         go_simp
                         with_reducible rfl
                        rotate_left
                        ·simp only [Act.put, zpA, zpO, zpS, i64_w, i32_w]
                         rfl
                        refine pure_ (i := 13) (N := some 96) (v := ?_) (a' := ?_) (bm 20 0x13fff) rfl rfl (any_of HT_.out (by kernel_rfl)) (fun _ _ _ h => h) (Or.inl ⟨by rfl, ?_⟩) ?_ ?_
                        rotate_left
                        ·intro w'
                         go_simp
                         with_reducible rfl
                        rotate_left
                        ·simp only [Act.put, zpA, zpO, zpS, i64_w, i32_w]
                         rfl
                        refine pure_ (i := 14) (N := some 97) (v := ?_) (a' := ?_) (bm 20 0x17fff) rfl rfl (any_of HT_.out (by kernel_rfl)) (fun _ _ _ h => h) (Or.inl ⟨by rfl, ?_⟩) ?_ ?_
                        rotate_left
                        ·intro w'
                         go_simp
                         with_reducible rfl
                        rotate_left
                        ·simp only [Act.put, zpA, zpO, zpS, i64_w, i32_w]
                         rfl
                        refine pure_ (i := 15) (N := some 98) (v := ?_) (a' := ?_) (bm 20 0x1ffff) rfl rfl (any_of HT_.out (by kernel_rfl)) (fun _ _ _ h => h) (Or.inl ⟨by rfl, ?_⟩) ?_ ?_
                        rotate_left
                        ·intro w'
                         go_simp
                         with_reducible rfl
                        rotate_left
                        ·simp only [Act.put, zpA, zpO, zpS, i64_w, i32_w]
                         rfl
                        exact norm_ (by simp only [putAll, Act.put, List.setIfInBounds_toArray, List.set_cons_zero, List.set_cons_succ]) (hCont (v428, gb441) _ ⟨(by (with_reducible repeat (first | apply Kd.R_alloc | apply Kd.R_drewN | apply Kd.R_drew)); exact HO429.out), (BD BK402), (BD BK414), (BD BK426), (BD BK441), GW441.out, GE441.out, NB402_441.out, NB441_402.out, NB414_441.out, NB441_414.out, NB426_441.out, NB441_426.out, (BW HB)⟩)
                      rintro ⟨v428, gb441⟩ w58 ⟨h0_, h1_, h2_, h3_, h4_, h5_, h6_, h7_, h8_, h9_, h10_, h11_, h12_, h13_⟩
                      have n0_ : Aside0 (Kd.R (Kd.int .u8) 5 w58 w.heap.size (fun _ => True) v428 y427) := ⟨h0_⟩
                      have n1_ : Aside0 (w58.heap[gb402]? = some (.cells #[.int .i64 t391, .int .i64 t392, .int .i64 t393, .int .i64 t394, .int .i64 t395, .int .i64 t396, .int .u32 t397, .int .u32 t398, .string t399] 24 (0, 0))) := ⟨h1_⟩
                      have n2_ : Aside0 (w58.heap[gb414]? = some (.cells #[.int .i64 t403, .int .i64 t404, .int .i64 t405, .int .i64 t406, .int .i64 t407, .int .i64 t408, .int .u32 t409, .int .u32 t410, .string t411] 24 (0, 0))) := ⟨h2_⟩
                      have n3_ : Aside0 (w58.heap[gb426]? = some (.cells #[.int .i64 t415, .int .i64 t416, .int .i64 t417, .int .i64 t418, .int .i64 t419, .int .i64 t420, .int .u32 t421, .int .u32 t422, .string t423] 24 (0, 0))) := ⟨h3_⟩
                      have n4_ : Aside0 (w58.heap[gb441]? = some (.cells #[.int .i64 0, .int .i64 0, .int .i64 0, .int .i64 0, .int .i64 0, .int .i64 0, .int .u32 0, .int .u32 0, .string (⟨#[]⟩ : ByteArray)] 24 (0, 0))) := ⟨h4_⟩
                      have n5_ : Aside0 (w.heap.size ≤ gb441) := ⟨h5_⟩
                      have n6_ : Aside0 (w.heap.size ≤ gb441) := ⟨h6_⟩
                      have n7_ : Aside0 (gb402 ≠ gb441) := ⟨h7_⟩
                      have n8_ : Aside0 (gb441 ≠ gb402) := ⟨h8_⟩
                      have n9_ : Aside0 (gb414 ≠ gb441) := ⟨h9_⟩
                      have n10_ : Aside0 (gb441 ≠ gb414) := ⟨h10_⟩
                      have n11_ : Aside0 (gb426 ≠ gb441) := ⟨h11_⟩
                      have n12_ : Aside0 (gb441 ≠ gb426) := ⟨h12_⟩
                      have n13_ : Aside0 (Below w.heap.size w w58) := ⟨h13_⟩
                      clear BK402
                      clear BK414
                      clear BK426
                      clear HB
                      clear h0_ h1_ h2_ h3_ h4_ h5_ h6_ h7_ h8_ h9_ h10_ h11_ h12_ h13_
                      have HO429 := n0_
                      have BK402 := n1_
                      have BK414 := n2_
                      have BK426 := n3_
                      have BK441 := n4_
                      have GW441 := n5_
                      have GE441 := n6_
                      have NB402_441 := n7_
                      have NB441_402 := n8_
                      have NB414_441 := n9_
                      have NB441_414 := n10_
                      have NB426_441 := n11_
                      have NB441_426 := n12_
                      have HB := n13_
                      clear n0_ n1_ n2_ n3_ n4_ n5_ n6_ n7_ n8_ n9_ n10_ n11_ n12_ n13_
                      have hHeld := trivial
                      refine norm_ (a' := ?_) ?_ ?_
                      rotate_left
                      ·simp only [putAll, Act.put, List.setIfInBounds_toArray, List.set_cons_zero, List.set_cons_succ]
                       rfl
                      refine one_ (i := 17) (N := none) (bm 20 0x3ffff) rfl rfl (one_of HT_.out (by kernel_rfl)) (by decide) (fun K hK => ?_)
                      have hs59 : w58.cell? ⟨gb441, 0, none⟩ = some (.int .i64 0) := (blk_cell BK441.out 0).trans rfl
                      have hfs59 := blk_frozen BK441.out 0
                      have hns59_0 := NB402_441.out
                      have hns59_1 := NB414_441.out
                      have hns59_2 := NB426_441.out
                      have hms59_0 := NB441_402.out
                      have hms59_1 := NB441_414.out
                      have hms59_2 := NB441_426.out
                      have hs60 : w58.cell? ⟨gb441, 1, none⟩ = some (.int .i64 0) := (blk_cell BK441.out 1).trans rfl
                      have hfs60 := blk_frozen BK441.out 1
                      have hns60_0 := NB402_441.out
                      have hns60_1 := NB414_441.out
                      have hns60_2 := NB426_441.out
                      have hms60_0 := NB441_402.out
                      have hms60_1 := NB441_414.out
                      have hms60_2 := NB441_426.out
                      have hs61 : w58.cell? ⟨gb441, 2, none⟩ = some (.int .i64 0) := (blk_cell BK441.out 2).trans rfl
                      have hfs61 := blk_frozen BK441.out 2
                      have hns61_0 := NB402_441.out
                      have hns61_1 := NB414_441.out
                      have hns61_2 := NB426_441.out
                      have hms61_0 := NB441_402.out
                      have hms61_1 := NB441_414.out
                      have hms61_2 := NB441_426.out
                      have hs62 : w58.cell? ⟨gb441, 3, none⟩ = some (.int .i64 0) := (blk_cell BK441.out 3).trans rfl
                      have hfs62 := blk_frozen BK441.out 3
                      have hns62_0 := NB402_441.out
                      have hns62_1 := NB414_441.out
                      have hns62_2 := NB426_441.out
                      have hms62_0 := NB441_402.out
                      have hms62_1 := NB441_414.out
                      have hms62_2 := NB441_426.out
                      have hs63 : w58.cell? ⟨gb441, 4, none⟩ = some (.int .i64 0) := (blk_cell BK441.out 4).trans rfl
                      have hfs63 := blk_frozen BK441.out 4
                      have hns63_0 := NB402_441.out
                      have hns63_1 := NB414_441.out
                      have hns63_2 := NB426_441.out
                      have hms63_0 := NB441_402.out
                      have hms63_1 := NB441_414.out
                      have hms63_2 := NB441_426.out
                      have hs64 : w58.cell? ⟨gb441, 5, none⟩ = some (.int .i64 0) := (blk_cell BK441.out 5).trans rfl
                      have hfs64 := blk_frozen BK441.out 5
                      have hns64_0 := NB402_441.out
                      have hns64_1 := NB414_441.out
                      have hns64_2 := NB426_441.out
                      have hms64_0 := NB441_402.out
                      have hms64_1 := NB441_414.out
                      have hms64_2 := NB441_426.out
                      have hs65 : w58.cell? ⟨gb441, 6, none⟩ = some (.int .u32 0) := (blk_cell BK441.out 6).trans rfl
                      have hfs65 := blk_frozen BK441.out 6
                      have hns65_0 := NB402_441.out
                      have hns65_1 := NB414_441.out
                      have hns65_2 := NB426_441.out
                      have hms65_0 := NB441_402.out
                      have hms65_1 := NB441_414.out
                      have hms65_2 := NB441_426.out
                      have hs66 : w58.cell? ⟨gb441, 7, none⟩ = some (.int .u32 0) := (blk_cell BK441.out 7).trans rfl
                      have hfs66 := blk_frozen BK441.out 7
                      have hns66_0 := NB402_441.out
                      have hns66_1 := NB414_441.out
                      have hns66_2 := NB426_441.out
                      have hms66_0 := NB441_402.out
                      have hms66_1 := NB441_414.out
                      have hms66_2 := NB441_426.out
                      have hs67 : w58.cell? ⟨gb441, 8, none⟩ = some (.string (⟨#[]⟩ : ByteArray)) := (blk_cell BK441.out 8).trans rfl
                      have hfs67 := blk_frozen BK441.out 8
                      have hns67_0 := NB402_441.out
                      have hns67_1 := NB414_441.out
                      have hns67_2 := NB426_441.out
                      have hms67_0 := NB441_402.out
                      have hms67_1 := NB441_414.out
                      have hms67_2 := NB441_426.out
                      refine skip_ (w1 := ?_) (by rfl) rfl ?_ ?_
                      rotate_left
                      ·go_simp
                       rfl
                      refine hK.out _ _ trivial (fun hHeld => ?_)
                      clear hK K
                      refine pure_ (i := 18) (N := some 20) (v := ?_) (a' := ?_) (bm 20 0x7ffff) rfl rfl (any_of HT_.out (by kernel_rfl)) (fun _ _ _ h => h) (Or.inl ⟨by rfl, ?_⟩) ?_ ?_
                      rotate_left
                      ·intro w'
                       go_simp
                       with_reducible rfl
                      rotate_left
                      ·simp only [Act.put, zpA, zpO, zpS, i64_w, i32_w]
                       rfl
                      refine pure_ (i := 19) (N := some 21) (v := ?_) (a' := ?_) (bm 20 0xfffff) rfl rfl (any_of HT_.out (by kernel_rfl)) (fun _ _ _ h => h) (Or.inl ⟨by rfl, ?_⟩) ?_ ?_
                      rotate_left
                      ·intro w'
                       go_simp
                       with_reducible rfl
                      rotate_left
                      ·simp only [Act.put, zpA, zpO, zpS, i64_w, i32_w]
                       rfl
                      refine done_ (done_of HT_.out (by kernel_rfl)) ?_
                      try go_wp2
                      go_ret
                      exact ⟨by first | rfl | (simp [errW_none, errW_some] <;> rfl) | (simp only [← hji5, ← hji15]; first | rfl | (simp [errW_none, errW_some] <;> rfl)) | (simp [*, errW_none, errW_some] <;> rfl), BW HB⟩
                     ·rw [if_neg c41] at H
                      have c41b0 : (t425 == 4) = false := beq_eq_false_iff_ne.mpr c41
                      have c41b1 : (t425 != 4) = true := bne_iff_ne.mpr c41
                      exact absurd ((Option.some.inj H).trans hr_) (by decide)
                    ·rw [if_neg c40] at H
                     have c40b0 : (t413 == 3) = false := beq_eq_false_iff_ne.mpr c40
                     have c40b1 : (t413 != 3) = true := bne_iff_ne.mpr c40
                     exact absurd ((Option.some.inj H).trans hr_) (by decide)
                   ·rw [if_neg c39] at H
                    have c39b0 : (t401 == 2) = false := beq_eq_false_iff_ne.mpr c39
                    have c39b1 : (t401 != 2) = true := bne_iff_ne.mpr c39
                    exact absurd ((Option.some.inj H).trans hr_) (by decide)
                 ·rw [if_neg c36] at H
                  exact absurd H (by simp)
                ·rw [if_neg c35] at H
                 exact absurd H (by simp)
               ·rw [if_neg c34] at H
                exact absurd H (by simp)
              ·rw [if_neg c32] at H
               exact absurd H (by simp)
             ·rw [if_neg c31] at H
              exact absurd H (by simp)
            ·rw [if_neg c30] at H
             exact absurd H (by simp)
           ·rw [if_neg c26] at H
            exact absurd H (by simp)
          ·rw [if_neg c25] at H
           exact absurd H (by simp)
         ·rw [if_neg c24] at H
          have c24b0 : decide ((wrap64 ((t389.size : Int) - (Int.tmod (wrap64 (a1)) (wrap64 ((t389.size : Int) + 1))))) < 20) = false := decide_eq_false c24
          (try rw [hji15] at c24b0)
          clear c24
          by_cases c68 : 1 ≤ (t389.size : Int)
          ·rw [if_pos c68] at H
           have c68b0 := eq_true c68
           have c68b1 : decide (1 ≤ (t389.size : Int)) = true := decide_eq_true c68
           clear c68
           by_cases c69 : 1 + (t389.extract 1 t389.size).size ≤ 9223372036854775807
           ·rw [if_pos c69] at H
            have c69b0 := eq_true c69
            have c69b1 : decide (1 + (t389.extract 1 t389.size).size ≤ 9223372036854775807) = true := decide_eq_true c69
            try have c69b2 : (9223372036854775807 < 1 + (t389.extract 1 t389.size).size) = False := eq_false (Nat.not_lt.2 c69)
            (try (have c69r := c69; (repeat rw [ByteArray.size_append] at c69r); (repeat rw [ByteArray.size_extract] at c69r); (repeat rw [Nat.sub_zero] at c69r); (repeat rw [Nat.min_self] at c69r); have c69rt := eq_true c69r; have c69ru := eq_false (Nat.not_lt.mpr c69r); clear c69r))
            (try (have c69s := c69; simp [c6b0, c7b0, c16b0, c17b0, c68b0] at c69s; have c69t := eq_true c69s; have c69u := eq_false (Nat.not_lt.mpr c69s); clear c69s))
            replace H := Option.bind_eq_some_iff.mp H
            obtain ⟨⟨t442, t443, t444, t445, t446, t447, t448, t449, t450, t451, t452⟩, A700, H⟩ := H
            (try set_option simprocs false in dsimp only at H)
            have A70 := Aside0.mk A700
            clear A700
            have c71b0 := eq_true (of_decide_eq_true (by first | (with_reducible assumption) | assumption) : 1 ≤ (t389.size : Int))
            replace H := Option.bind_eq_some_iff.mp H
            obtain ⟨⟨t454, t455, t456, t457, t458, t459, t460, t461, t462, t463, t464⟩, A720, H⟩ := H
            (try set_option simprocs false in dsimp only at H)
            have A72 := Aside0.mk A720
            clear A720
            by_cases c73 : 0 ≤ 10
            ·rw [if_pos c73] at H
             have c73b0 := eq_true c73
             have c73b1 : decide (0 ≤ 10) = true := decide_eq_true c73
             clear c73
             by_cases c74 : 10 ≤ (t389.size : Int)
             ·rw [if_pos c74] at H
              have c74b0 := eq_true c74
              have c74b1 : decide (10 ≤ (t389.size : Int)) = true := decide_eq_true c74
              clear c74
              by_cases c75 : 10 < (t389.size : Int)
              ·rw [if_pos c75] at H
               have c75b0 : decide (10 < (t389.size : Int)) = true := decide_eq_true c75
               have c75b1 : decide (10 < t389.size) = true := decide_eq_true (by omega)
               clear c75
               obtain ⟨y466, hy466⟩ : ∃ y_ : List Int, y_ = (([Go.bits .xor .u8 (bt t389 10) 1] : List Int)) := ⟨_, rfl⟩
               replace H : (if (t389.extract 0 10).size + (strOfNums y466).size ≤ 9223372036854775807 then (if 11 ≤ (t389.size : Int) then (if ((t389.extract 0 10) ++ (strOfNums y466)).size + (t389.extract 11 t389.size).size ≤ 9223372036854775807 then ((ip4_Parse.f (((t389.extract 0 10) ++ (strOfNums y466)) ++ (t389.extract 11 t389.size))).bind fun bt469 => (if true = true then (if t401 = x12_18 then (if t452 = 3 then (if t464 = 4 then (some (bt469.2.2.2.2.2.2.2.2.2.2 == 7)) else (some false)) else (some false)) else (some false)) else (some false))) else (none)) else (none)) else (none)) = some r := by first | (rw [hy466]; with_reducible exact H) | (have H2_ := (Option.bind_some _ _).symm.trans H; rw [hy466]; with_reducible exact H2_) | (have H2_ := (Option.bind_some _ _).symm.trans H; with_reducible exact H2_) | with_reducible exact H | (rw [hy466]; exact H) | exact H
               have Ny466 := Aside0.mk hy466
               clear hy466
               by_cases c77 : (t389.extract 0 10).size + (strOfNums y466).size ≤ 9223372036854775807
               ·rw [if_pos c77] at H
                have c77b0 := eq_true c77
                have c77b1 : decide ((t389.extract 0 10).size + (strOfNums y466).size ≤ 9223372036854775807) = true := decide_eq_true c77
                try have c77b2 : (9223372036854775807 < (t389.extract 0 10).size + (strOfNums y466).size) = False := eq_false (Nat.not_lt.2 c77)
                (try (have c77r := c77; (repeat rw [ByteArray.size_append] at c77r); (repeat rw [ByteArray.size_extract] at c77r); (repeat rw [Nat.sub_zero] at c77r); (repeat rw [Nat.min_self] at c77r); have c77rt := eq_true c77r; have c77ru := eq_false (Nat.not_lt.mpr c77r); clear c77r))
                (try (have c77s := c77; simp [c6b0, c7b0, c16b0, c17b0, c68b0, c69b0, c71b0, c73b0, c74b0] at c77s; have c77t := eq_true c77s; have c77u := eq_false (Nat.not_lt.mpr c77s); clear c77s))
                by_cases c78 : 11 ≤ (t389.size : Int)
                ·rw [if_pos c78] at H
                 have c78b0 := eq_true c78
                 have c78b1 : decide (11 ≤ (t389.size : Int)) = true := decide_eq_true c78
                 clear c78
                 by_cases c79 : ((t389.extract 0 10) ++ (strOfNums y466)).size + (t389.extract 11 t389.size).size ≤ 9223372036854775807
                 ·rw [if_pos c79] at H
                  have c79b0 := eq_true c79
                  have c79b1 : decide (((t389.extract 0 10) ++ (strOfNums y466)).size + (t389.extract 11 t389.size).size ≤ 9223372036854775807) = true := decide_eq_true c79
                  try have c79b2 : (9223372036854775807 < ((t389.extract 0 10) ++ (strOfNums y466)).size + (t389.extract 11 t389.size).size) = False := eq_false (Nat.not_lt.2 c79)
                  (try (have c79r := c79; (repeat rw [ByteArray.size_append] at c79r); (repeat rw [ByteArray.size_extract] at c79r); (repeat rw [Nat.sub_zero] at c79r); (repeat rw [Nat.min_self] at c79r); have c79rt := eq_true c79r; have c79ru := eq_false (Nat.not_lt.mpr c79r); clear c79r))
                  (try (have c79s := c79; simp [c6b0, c7b0, c16b0, c17b0, c68b0, c69b0, c71b0, c73b0, c74b0, c77b0, c78b0] at c79s; have c79t := eq_true c79s; have c79u := eq_false (Nat.not_lt.mpr c79s); clear c79s))
                  replace H := Option.bind_eq_some_iff.mp H
                  obtain ⟨⟨t469, t470, t471, t472, t473, t474, t475, t476, t477, t478, t479⟩, A800, H⟩ := H
                  (try set_option simprocs false in dsimp only at H)
                  have A80 := Aside0.mk A800
                  clear A800
                  have c81 : true = true := rfl
                  ·clear c81
                   first | rw [if_pos rfl] at H | rw [if_pos trivial] at H
                   by_cases c82 : t401 = x12_18
                   ·rw [if_pos c82] at H
                    have c82b0 : (t401 == x12_18) = true := beq_iff_eq.mpr c82
                    have c82b1 : (t401 != x12_18) = false := bne_eq_false_iff_eq.mpr c82
                    clear c82
                    by_cases c83 : t452 = 3
                    ·rw [if_pos c83] at H
                     have c83b0 : (t452 == 3) = true := beq_iff_eq.mpr c83
                     have c83b1 : (t452 != 3) = false := bne_eq_false_iff_eq.mpr c83
                     clear c83
                     by_cases c84 : t464 = 4
                     ·rw [if_pos c84] at H
                      have c84b0 : (t464 == 4) = true := beq_iff_eq.mpr c84
                      have c84b1 : (t464 != 4) = false := bne_eq_false_iff_eq.mpr c84
                      clear c84
                      obtain rfl := Option.some.inj H
                      try go_wp2_with (first | ((with_reducible refine gate_callee (f := 18) rfl ?_); refine goesL_ (some 71) rfl rfl Try.func18 (by kernel_rfl) rfl #[.string ((⟨#[101]⟩ : ByteArray) ++ (t389.extract 1 t389.size))] rfl AG ?_; (with_reducible refine (ip4_Parse.calls ((⟨#[101]⟩ : ByteArray) ++ (t389.extract 1 t389.size)) t442 t443 t444 t445 t446 t447 t448 t449 t450 t451 t452 _ A70.out).mono ?_); rintro e w85 ⟨rfl, hb⟩; (try clear A70); refine ⟨_, rfl, ?_⟩; have n0_ := Aside0.mk (blk_below (g := gb402) (o := .cells #[.int .i64 t391, .int .i64 t392, .int .i64 t393, .int .i64 t394, .int .i64 t395, .int .i64 t396, .int .u32 t397, .int .u32 t398, .string t399] 24 (0, 0)) (BD BK402) hb); have n1_ := Aside0.mk (below_step (BW HB) hb); clear BK402; clear HB; have BK402 := n0_; have HB := n1_; clear n0_ n1_; (try clear hb); (try clear hb2); (try clear hk); (try clear hi)) | ((with_reducible refine gate_dst (N := 13) rfl ?_); (try (refine gate_guard (by rfl) ?_; dsimp only)); refine box_event ?hg (N := 13) ?hd (cs := #[.int .i64 0, .int .i64 0, .int .i64 0, .int .i64 0, .int .i64 0, .int .i64 0, .int .u32 0, .int .u32 0, .string (⟨#[]⟩ : ByteArray)]) (t := 24) ?hr ?_; (case hd => rfl); (case hg => rfl); (case hr => first | (go_simp; done) | (go_simp; rfl)); intro gb453 hg w86 hbox hb; have n0_ := Aside0.mk (blk_below (g := gb402) (o := .cells #[.int .i64 t391, .int .i64 t392, .int .i64 t393, .int .i64 t394, .int .i64 t395, .int .i64 t396, .int .u32 t397, .int .u32 t398, .string t399] 24 (0, 0)) (BD BK402) hb); have n1_ := Aside0.mk (below_step (BW HB) hb); have n2_ := Aside0.mk (hbox); have n3_ := Aside0.mk ((by rw [hg]; exact (below_size (BW HB)) : w.heap.size ≤ gb453)); have n4_ := Aside0.mk ((by rw [hg]; exact (below_size (BW HB)) : w.heap.size ≤ gb453)); have n5_ := Aside0.mk ((by rw [hg]; exact Nat.ne_of_lt (blk_lt (g := gb402) (o := .cells #[.int .i64 t391, .int .i64 t392, .int .i64 t393, .int .i64 t394, .int .i64 t395, .int .i64 t396, .int .u32 t397, .int .u32 t398, .string t399] 24 (0, 0)) (BD BK402)) : gb402 ≠ gb453)); have n6_ := Aside0.mk ((by rw [hg]; exact Nat.ne_of_gt (blk_lt (g := gb402) (o := .cells #[.int .i64 t391, .int .i64 t392, .int .i64 t393, .int .i64 t394, .int .i64 t395, .int .i64 t396, .int .u32 t397, .int .u32 t398, .string t399] 24 (0, 0)) (BD BK402)) : gb453 ≠ gb402)); clear BK402; clear HB; have BK402 := n0_; have HB := n1_; have BK453 := n2_; have GW453 := n3_; have GE453 := n4_; have NB402_453 := n5_; have NB453_402 := n6_; clear n0_ n1_ n2_ n3_ n4_ n5_ n6_; clear hb hbox hg; have hnb87 := NB453_402.out; have hnc87 := NB402_453.out; obtain ⟨hcz88_0, hcz88_1, hcz88_2, hcz88_3, hcz88_4, hcz88_5, hcz88_6, hcz88_7, hcz88_8, hfz88_0, hfz88_1, hfz88_2, hfz88_3, hfz88_4, hfz88_5, hfz88_6, hfz88_7, hfz88_8⟩ := blk9 BK453.out) | ((with_reducible refine gate_callee (f := 18) rfl ?_); refine goesL_ (some 79) rfl rfl Try.func18 (by kernel_rfl) rfl #[.string ((⟨#[68]⟩ : ByteArray) ++ (t389.extract 1 t389.size))] rfl AG ?_; (with_reducible refine (ip4_Parse.calls ((⟨#[68]⟩ : ByteArray) ++ (t389.extract 1 t389.size)) t454 t455 t456 t457 t458 t459 t460 t461 t462 t463 t464 _ A72.out).mono ?_); rintro e w89 ⟨rfl, hb⟩; (try clear A72); refine ⟨_, rfl, ?_⟩; have n0_ := Aside0.mk (blk_below (g := gb402) (o := .cells #[.int .i64 t391, .int .i64 t392, .int .i64 t393, .int .i64 t394, .int .i64 t395, .int .i64 t396, .int .u32 t397, .int .u32 t398, .string t399] 24 (0, 0)) (by (with_reducible repeat (first | refine blk_drewN ?_ _ | refine blk_drew ?_ | refine blk_alloc ?_ _)); refine blk_far ?_ NB402_453.out _; (with_reducible repeat (first | refine blk_drewN ?_ _ | refine blk_drew ?_ | refine blk_alloc ?_ _)); refine blk_far ?_ NB402_453.out _; (with_reducible repeat (first | refine blk_drewN ?_ _ | refine blk_drew ?_ | refine blk_alloc ?_ _)); refine blk_far ?_ NB402_453.out _; (with_reducible repeat (first | refine blk_drewN ?_ _ | refine blk_drew ?_ | refine blk_alloc ?_ _)); refine blk_far ?_ NB402_453.out _; (with_reducible repeat (first | refine blk_drewN ?_ _ | refine blk_drew ?_ | refine blk_alloc ?_ _)); refine blk_far ?_ NB402_453.out _; (with_reducible repeat (first | refine blk_drewN ?_ _ | refine blk_drew ?_ | refine blk_alloc ?_ _)); refine blk_far ?_ NB402_453.out _; (with_reducible repeat (first | refine blk_drewN ?_ _ | refine blk_drew ?_ | refine blk_alloc ?_ _)); refine blk_far ?_ NB402_453.out _; (with_reducible repeat (first | refine blk_drewN ?_ _ | refine blk_drew ?_ | refine blk_alloc ?_ _)); refine blk_far ?_ NB402_453.out _; (with_reducible repeat (first | refine blk_drewN ?_ _ | refine blk_drew ?_ | refine blk_alloc ?_ _)); refine blk_far ?_ NB402_453.out _; (with_reducible repeat (first | refine blk_drewN ?_ _ | refine blk_drew ?_ | refine blk_alloc ?_ _)); exact BK402.out) hb); have n1_ := Aside0.mk (blk_below (g := gb453) (o := .cells #[.int .i64 t442, .int .i64 t443, .int .i64 t444, .int .i64 t445, .int .i64 t446, .int .i64 t447, .int .u32 t448, .int .u32 t449, .string t450] 24 (0, 0)) (by (with_reducible repeat (first | refine blk_drewN ?_ _ | refine blk_drew ?_ | refine blk_alloc ?_ _)); refine blk_put (cs := #[.int .i64 t442, .int .i64 t443, .int .i64 t444, .int .i64 t445, .int .i64 t446, .int .i64 t447, .int .u32 t448, .int .u32 t449, .string (⟨#[]⟩ : ByteArray)]) ?_ 8 _ rfl; (with_reducible repeat (first | refine blk_drewN ?_ _ | refine blk_drew ?_ | refine blk_alloc ?_ _)); refine blk_put (cs := #[.int .i64 t442, .int .i64 t443, .int .i64 t444, .int .i64 t445, .int .i64 t446, .int .i64 t447, .int .u32 t448, .int .u32 0, .string (⟨#[]⟩ : ByteArray)]) ?_ 7 _ rfl; (with_reducible repeat (first | refine blk_drewN ?_ _ | refine blk_drew ?_ | refine blk_alloc ?_ _)); refine blk_put (cs := #[.int .i64 t442, .int .i64 t443, .int .i64 t444, .int .i64 t445, .int .i64 t446, .int .i64 t447, .int .u32 0, .int .u32 0, .string (⟨#[]⟩ : ByteArray)]) ?_ 6 _ rfl; (with_reducible repeat (first | refine blk_drewN ?_ _ | refine blk_drew ?_ | refine blk_alloc ?_ _)); refine blk_put (cs := #[.int .i64 t442, .int .i64 t443, .int .i64 t444, .int .i64 t445, .int .i64 t446, .int .i64 0, .int .u32 0, .int .u32 0, .string (⟨#[]⟩ : ByteArray)]) ?_ 5 _ rfl; (with_reducible repeat (first | refine blk_drewN ?_ _ | refine blk_drew ?_ | refine blk_alloc ?_ _)); refine blk_put (cs := #[.int .i64 t442, .int .i64 t443, .int .i64 t444, .int .i64 t445, .int .i64 0, .int .i64 0, .int .u32 0, .int .u32 0, .string (⟨#[]⟩ : ByteArray)]) ?_ 4 _ rfl; (with_reducible repeat (first | refine blk_drewN ?_ _ | refine blk_drew ?_ | refine blk_alloc ?_ _)); refine blk_put (cs := #[.int .i64 t442, .int .i64 t443, .int .i64 t444, .int .i64 0, .int .i64 0, .int .i64 0, .int .u32 0, .int .u32 0, .string (⟨#[]⟩ : ByteArray)]) ?_ 3 _ rfl; (with_reducible repeat (first | refine blk_drewN ?_ _ | refine blk_drew ?_ | refine blk_alloc ?_ _)); refine blk_put (cs := #[.int .i64 t442, .int .i64 t443, .int .i64 0, .int .i64 0, .int .i64 0, .int .i64 0, .int .u32 0, .int .u32 0, .string (⟨#[]⟩ : ByteArray)]) ?_ 2 _ rfl; (with_reducible repeat (first | refine blk_drewN ?_ _ | refine blk_drew ?_ | refine blk_alloc ?_ _)); refine blk_put (cs := #[.int .i64 t442, .int .i64 0, .int .i64 0, .int .i64 0, .int .i64 0, .int .i64 0, .int .u32 0, .int .u32 0, .string (⟨#[]⟩ : ByteArray)]) ?_ 1 _ rfl; (with_reducible repeat (first | refine blk_drewN ?_ _ | refine blk_drew ?_ | refine blk_alloc ?_ _)); refine blk_put (cs := #[.int .i64 0, .int .i64 0, .int .i64 0, .int .i64 0, .int .i64 0, .int .i64 0, .int .u32 0, .int .u32 0, .string (⟨#[]⟩ : ByteArray)]) ?_ 0 _ rfl; (with_reducible repeat (first | refine blk_drewN ?_ _ | refine blk_drew ?_ | refine blk_alloc ?_ _)); exact BK453.out) hb); have n2_ := Aside0.mk (below_step (BW HB) hb); clear BK402; clear BK453; clear HB; have BK402 := n0_; have BK453 := n1_; have HB := n2_; clear n0_ n1_ n2_; (try clear hb); (try clear hb2); (try clear hk); (try clear hi)) | ((with_reducible refine gate_dst (N := 16) rfl ?_); (try (refine gate_guard (by rfl) ?_; dsimp only)); refine box_event ?hg (N := 16) ?hd (cs := #[.int .i64 0, .int .i64 0, .int .i64 0, .int .i64 0, .int .i64 0, .int .i64 0, .int .u32 0, .int .u32 0, .string (⟨#[]⟩ : ByteArray)]) (t := 24) ?hr ?_; (case hd => rfl); (case hg => rfl); (case hr => first | (go_simp; done) | (go_simp; rfl)); intro gb465 hg w90 hbox hb; have n0_ := Aside0.mk (blk_below (g := gb402) (o := .cells #[.int .i64 t391, .int .i64 t392, .int .i64 t393, .int .i64 t394, .int .i64 t395, .int .i64 t396, .int .u32 t397, .int .u32 t398, .string t399] 24 (0, 0)) (BD BK402) hb); have n1_ := Aside0.mk (blk_below (g := gb453) (o := .cells #[.int .i64 t442, .int .i64 t443, .int .i64 t444, .int .i64 t445, .int .i64 t446, .int .i64 t447, .int .u32 t448, .int .u32 t449, .string t450] 24 (0, 0)) (BD BK453) hb); have n2_ := Aside0.mk (below_step (BW HB) hb); have n3_ := Aside0.mk (hbox); have n4_ := Aside0.mk ((by rw [hg]; exact (below_size (BW HB)) : w.heap.size ≤ gb465)); have n5_ := Aside0.mk ((by rw [hg]; exact (below_size (BW HB)) : w.heap.size ≤ gb465)); have n6_ := Aside0.mk ((by rw [hg]; exact Nat.ne_of_lt (blk_lt (g := gb402) (o := .cells #[.int .i64 t391, .int .i64 t392, .int .i64 t393, .int .i64 t394, .int .i64 t395, .int .i64 t396, .int .u32 t397, .int .u32 t398, .string t399] 24 (0, 0)) (BD BK402)) : gb402 ≠ gb465)); have n7_ := Aside0.mk ((by rw [hg]; exact Nat.ne_of_gt (blk_lt (g := gb402) (o := .cells #[.int .i64 t391, .int .i64 t392, .int .i64 t393, .int .i64 t394, .int .i64 t395, .int .i64 t396, .int .u32 t397, .int .u32 t398, .string t399] 24 (0, 0)) (BD BK402)) : gb465 ≠ gb402)); have n8_ := Aside0.mk ((by rw [hg]; exact Nat.ne_of_lt (blk_lt (g := gb453) (o := .cells #[.int .i64 t442, .int .i64 t443, .int .i64 t444, .int .i64 t445, .int .i64 t446, .int .i64 t447, .int .u32 t448, .int .u32 t449, .string t450] 24 (0, 0)) (BD BK453)) : gb453 ≠ gb465)); have n9_ := Aside0.mk ((by rw [hg]; exact Nat.ne_of_gt (blk_lt (g := gb453) (o := .cells #[.int .i64 t442, .int .i64 t443, .int .i64 t444, .int .i64 t445, .int .i64 t446, .int .i64 t447, .int .u32 t448, .int .u32 t449, .string t450] 24 (0, 0)) (BD BK453)) : gb465 ≠ gb453)); clear BK402; clear BK453; clear HB; have BK402 := n0_; have BK453 := n1_; have HB := n2_; have BK465 := n3_; have GW465 := n4_; have GE465 := n5_; have NB402_465 := n6_; have NB465_402 := n7_; have NB453_465 := n8_; have NB465_453 := n9_; clear n0_ n1_ n2_ n3_ n4_ n5_ n6_ n7_ n8_ n9_; clear hb hbox hg; have hnb91 := NB465_402.out; have hnc91 := NB402_465.out; have hnb92 := NB465_453.out; have hnc92 := NB453_465.out; obtain ⟨hcz93_0, hcz93_1, hcz93_2, hcz93_3, hcz93_4, hcz93_5, hcz93_6, hcz93_7, hcz93_8, hfz93_0, hfz93_1, hfz93_2, hfz93_3, hfz93_4, hfz93_5, hfz93_6, hfz93_7, hfz93_8⟩ := blk9 BK465.out))
                      have n0_ : Aside0 ((((((((((w90.setCell ⟨gb465, 0, none⟩ (.int .i64 t454)).setCell ⟨gb465, 1, none⟩ (.int .i64 t455)).setCell ⟨gb465, 2, none⟩ (.int .i64 t456)).setCell ⟨gb465, 3, none⟩ (.int .i64 t457)).setCell ⟨gb465, 4, none⟩ (.int .i64 t458)).setCell ⟨gb465, 5, none⟩ (.int .i64 t459)).setCell ⟨gb465, 6, none⟩ (.int .u32 t460)).setCell ⟨gb465, 7, none⟩ (.int .u32 t461)).setCell ⟨gb465, 8, none⟩ (.string t462)).heap[gb402]? = some (.cells #[.int .i64 t391, .int .i64 t392, .int .i64 t393, .int .i64 t394, .int .i64 t395, .int .i64 t396, .int .u32 t397, .int .u32 t398, .string t399] 24 (0, 0))) := ⟨by (with_reducible repeat (first | refine blk_drewN ?_ _ | refine blk_drew ?_ | refine blk_alloc ?_ _)); refine blk_far ?_ NB402_465.out _; (with_reducible repeat (first | refine blk_drewN ?_ _ | refine blk_drew ?_ | refine blk_alloc ?_ _)); refine blk_far ?_ NB402_465.out _; (with_reducible repeat (first | refine blk_drewN ?_ _ | refine blk_drew ?_ | refine blk_alloc ?_ _)); refine blk_far ?_ NB402_465.out _; (with_reducible repeat (first | refine blk_drewN ?_ _ | refine blk_drew ?_ | refine blk_alloc ?_ _)); refine blk_far ?_ NB402_465.out _; (with_reducible repeat (first | refine blk_drewN ?_ _ | refine blk_drew ?_ | refine blk_alloc ?_ _)); refine blk_far ?_ NB402_465.out _; (with_reducible repeat (first | refine blk_drewN ?_ _ | refine blk_drew ?_ | refine blk_alloc ?_ _)); refine blk_far ?_ NB402_465.out _; (with_reducible repeat (first | refine blk_drewN ?_ _ | refine blk_drew ?_ | refine blk_alloc ?_ _)); refine blk_far ?_ NB402_465.out _; (with_reducible repeat (first | refine blk_drewN ?_ _ | refine blk_drew ?_ | refine blk_alloc ?_ _)); refine blk_far ?_ NB402_465.out _; (with_reducible repeat (first | refine blk_drewN ?_ _ | refine blk_drew ?_ | refine blk_alloc ?_ _)); refine blk_far ?_ NB402_465.out _; (with_reducible repeat (first | refine blk_drewN ?_ _ | refine blk_drew ?_ | refine blk_alloc ?_ _)); exact BK402.out⟩
                      have n1_ : Aside0 ((((((((((w90.setCell ⟨gb465, 0, none⟩ (.int .i64 t454)).setCell ⟨gb465, 1, none⟩ (.int .i64 t455)).setCell ⟨gb465, 2, none⟩ (.int .i64 t456)).setCell ⟨gb465, 3, none⟩ (.int .i64 t457)).setCell ⟨gb465, 4, none⟩ (.int .i64 t458)).setCell ⟨gb465, 5, none⟩ (.int .i64 t459)).setCell ⟨gb465, 6, none⟩ (.int .u32 t460)).setCell ⟨gb465, 7, none⟩ (.int .u32 t461)).setCell ⟨gb465, 8, none⟩ (.string t462)).heap[gb453]? = some (.cells #[.int .i64 t442, .int .i64 t443, .int .i64 t444, .int .i64 t445, .int .i64 t446, .int .i64 t447, .int .u32 t448, .int .u32 t449, .string t450] 24 (0, 0))) := ⟨by (with_reducible repeat (first | refine blk_drewN ?_ _ | refine blk_drew ?_ | refine blk_alloc ?_ _)); refine blk_far ?_ NB453_465.out _; (with_reducible repeat (first | refine blk_drewN ?_ _ | refine blk_drew ?_ | refine blk_alloc ?_ _)); refine blk_far ?_ NB453_465.out _; (with_reducible repeat (first | refine blk_drewN ?_ _ | refine blk_drew ?_ | refine blk_alloc ?_ _)); refine blk_far ?_ NB453_465.out _; (with_reducible repeat (first | refine blk_drewN ?_ _ | refine blk_drew ?_ | refine blk_alloc ?_ _)); refine blk_far ?_ NB453_465.out _; (with_reducible repeat (first | refine blk_drewN ?_ _ | refine blk_drew ?_ | refine blk_alloc ?_ _)); refine blk_far ?_ NB453_465.out _; (with_reducible repeat (first | refine blk_drewN ?_ _ | refine blk_drew ?_ | refine blk_alloc ?_ _)); refine blk_far ?_ NB453_465.out _; (with_reducible repeat (first | refine blk_drewN ?_ _ | refine blk_drew ?_ | refine blk_alloc ?_ _)); refine blk_far ?_ NB453_465.out _; (with_reducible repeat (first | refine blk_drewN ?_ _ | refine blk_drew ?_ | refine blk_alloc ?_ _)); refine blk_far ?_ NB453_465.out _; (with_reducible repeat (first | refine blk_drewN ?_ _ | refine blk_drew ?_ | refine blk_alloc ?_ _)); refine blk_far ?_ NB453_465.out _; (with_reducible repeat (first | refine blk_drewN ?_ _ | refine blk_drew ?_ | refine blk_alloc ?_ _)); exact BK453.out⟩
                      have n2_ : Aside0 ((((((((((w90.setCell ⟨gb465, 0, none⟩ (.int .i64 t454)).setCell ⟨gb465, 1, none⟩ (.int .i64 t455)).setCell ⟨gb465, 2, none⟩ (.int .i64 t456)).setCell ⟨gb465, 3, none⟩ (.int .i64 t457)).setCell ⟨gb465, 4, none⟩ (.int .i64 t458)).setCell ⟨gb465, 5, none⟩ (.int .i64 t459)).setCell ⟨gb465, 6, none⟩ (.int .u32 t460)).setCell ⟨gb465, 7, none⟩ (.int .u32 t461)).setCell ⟨gb465, 8, none⟩ (.string t462)).heap[gb465]? = some (.cells #[.int .i64 t454, .int .i64 t455, .int .i64 t456, .int .i64 t457, .int .i64 t458, .int .i64 t459, .int .u32 t460, .int .u32 t461, .string t462] 24 (0, 0))) := ⟨by (with_reducible repeat (first | refine blk_drewN ?_ _ | refine blk_drew ?_ | refine blk_alloc ?_ _)); refine blk_put (cs := #[.int .i64 t454, .int .i64 t455, .int .i64 t456, .int .i64 t457, .int .i64 t458, .int .i64 t459, .int .u32 t460, .int .u32 t461, .string (⟨#[]⟩ : ByteArray)]) ?_ 8 _ rfl; (with_reducible repeat (first | refine blk_drewN ?_ _ | refine blk_drew ?_ | refine blk_alloc ?_ _)); refine blk_put (cs := #[.int .i64 t454, .int .i64 t455, .int .i64 t456, .int .i64 t457, .int .i64 t458, .int .i64 t459, .int .u32 t460, .int .u32 0, .string (⟨#[]⟩ : ByteArray)]) ?_ 7 _ rfl; (with_reducible repeat (first | refine blk_drewN ?_ _ | refine blk_drew ?_ | refine blk_alloc ?_ _)); refine blk_put (cs := #[.int .i64 t454, .int .i64 t455, .int .i64 t456, .int .i64 t457, .int .i64 t458, .int .i64 t459, .int .u32 0, .int .u32 0, .string (⟨#[]⟩ : ByteArray)]) ?_ 6 _ rfl; (with_reducible repeat (first | refine blk_drewN ?_ _ | refine blk_drew ?_ | refine blk_alloc ?_ _)); refine blk_put (cs := #[.int .i64 t454, .int .i64 t455, .int .i64 t456, .int .i64 t457, .int .i64 t458, .int .i64 0, .int .u32 0, .int .u32 0, .string (⟨#[]⟩ : ByteArray)]) ?_ 5 _ rfl; (with_reducible repeat (first | refine blk_drewN ?_ _ | refine blk_drew ?_ | refine blk_alloc ?_ _)); refine blk_put (cs := #[.int .i64 t454, .int .i64 t455, .int .i64 t456, .int .i64 t457, .int .i64 0, .int .i64 0, .int .u32 0, .int .u32 0, .string (⟨#[]⟩ : ByteArray)]) ?_ 4 _ rfl; (with_reducible repeat (first | refine blk_drewN ?_ _ | refine blk_drew ?_ | refine blk_alloc ?_ _)); refine blk_put (cs := #[.int .i64 t454, .int .i64 t455, .int .i64 t456, .int .i64 0, .int .i64 0, .int .i64 0, .int .u32 0, .int .u32 0, .string (⟨#[]⟩ : ByteArray)]) ?_ 3 _ rfl; (with_reducible repeat (first | refine blk_drewN ?_ _ | refine blk_drew ?_ | refine blk_alloc ?_ _)); refine blk_put (cs := #[.int .i64 t454, .int .i64 t455, .int .i64 0, .int .i64 0, .int .i64 0, .int .i64 0, .int .u32 0, .int .u32 0, .string (⟨#[]⟩ : ByteArray)]) ?_ 2 _ rfl; (with_reducible repeat (first | refine blk_drewN ?_ _ | refine blk_drew ?_ | refine blk_alloc ?_ _)); refine blk_put (cs := #[.int .i64 t454, .int .i64 0, .int .i64 0, .int .i64 0, .int .i64 0, .int .i64 0, .int .u32 0, .int .u32 0, .string (⟨#[]⟩ : ByteArray)]) ?_ 1 _ rfl; (with_reducible repeat (first | refine blk_drewN ?_ _ | refine blk_drew ?_ | refine blk_alloc ?_ _)); refine blk_put (cs := #[.int .i64 0, .int .i64 0, .int .i64 0, .int .i64 0, .int .i64 0, .int .i64 0, .int .u32 0, .int .u32 0, .string (⟨#[]⟩ : ByteArray)]) ?_ 0 _ rfl; (with_reducible repeat (first | refine blk_drewN ?_ _ | refine blk_drew ?_ | refine blk_alloc ?_ _)); exact BK465.out⟩
                      have n3_ : Aside0 (Below w.heap.size w (((((((((w90.setCell ⟨gb465, 0, none⟩ (.int .i64 t454)).setCell ⟨gb465, 1, none⟩ (.int .i64 t455)).setCell ⟨gb465, 2, none⟩ (.int .i64 t456)).setCell ⟨gb465, 3, none⟩ (.int .i64 t457)).setCell ⟨gb465, 4, none⟩ (.int .i64 t458)).setCell ⟨gb465, 5, none⟩ (.int .i64 t459)).setCell ⟨gb465, 6, none⟩ (.int .u32 t460)).setCell ⟨gb465, 7, none⟩ (.int .u32 t461)).setCell ⟨gb465, 8, none⟩ (.string t462))) := ⟨BW HB⟩
                      (try clear BK402)
                      (try clear BK453)
                      (try clear BK465)
                      (try clear HB)
                      generalize (((((((((w90.setCell ⟨gb465, 0, none⟩ (.int .i64 t454)).setCell ⟨gb465, 1, none⟩ (.int .i64 t455)).setCell ⟨gb465, 2, none⟩ (.int .i64 t456)).setCell ⟨gb465, 3, none⟩ (.int .i64 t457)).setCell ⟨gb465, 4, none⟩ (.int .i64 t458)).setCell ⟨gb465, 5, none⟩ (.int .i64 t459)).setCell ⟨gb465, 6, none⟩ (.int .u32 t460)).setCell ⟨gb465, 7, none⟩ (.int .u32 t461)).setCell ⟨gb465, 8, none⟩ (.string t462)) = w94 at n0_ n1_ n2_ n3_ ⊢
                      have BK402 := n0_
                      have BK453 := n1_
                      have BK465 := n2_
                      have HB := n3_
                      clear n0_ n1_ n2_ n3_
                      have n0_ := Aside0.mk (blk_drew BK402.out)
                      have n1_ := Aside0.mk (blk_drew BK453.out)
                      have n2_ := Aside0.mk (blk_drew BK465.out)
                      have n3_ := Aside0.mk (below_drew1 HB.out)
                      clear BK402
                      clear BK453
                      clear BK465
                      clear HB
                      have BK402 := n0_
                      have BK453 := n1_
                      have BK465 := n2_
                      have HB := n3_
                      clear n0_ n1_ n2_ n3_
                      have p76 : 0 ≤ (10 : Int) := (by omega)
                      have q76 : 10 < t389.size := (by have : (10 : Int) < (t389.size : Int) := of_decide_eq_true (by first | (with_reducible assumption) | assumption); omega)
                      have hx76 : ∀ h : 10 < t389.size, ((t389[10]'h).toNat : Int) = bt t389 10 := bt_at t389 10
                      clear p76
                      have qi76 : (10 < (t389.size : Int)) = True := eq_true (of_decide_eq_true (by first | (with_reducible assumption) | assumption))
                      replace q76 := eq_true q76
                      refine start_ (n := 20) (S := fun w' => True) (ds := []) (bm 20 0x0) (by kernel_rfl) rfl rfl trivial (fun hHeld => ?_); refine with_tabW weighbridgelaw04_Ip4Order.tab17 weighbridgelaw04_Ip4Order.bits17 (fun HT_ HW_ => ?_)
                      generalize w94.drew = w95 at BK402 BK453 BK465 HB hHeld ⊢
                      refine pure_ (i := 0) (N := some 84) (v := ?_) (a' := ?_) (bm 20 0x1) rfl rfl (any_of HT_.out (by kernel_rfl)) (fun _ _ _ h => h) (Or.inl ⟨by rfl, ?_⟩) ?_ ?_
                      rotate_left
                      ·intro w'
                       go_simp
                       with_reducible rfl
                      rotate_left
                      ·simp only [Act.put, zpA, zpO, zpS, i64_w, i32_w]
                       rfl
                      refine pure_ (i := 1) (N := some 85) (v := ?_) (a' := ?_) (bm 20 0x3) rfl rfl (any_of HT_.out (by kernel_rfl)) (fun _ _ _ h => h) (Or.inl ⟨by rfl, ?_⟩) ?_ ?_
                      rotate_left
                      ·intro w'
                       go_simp
                       with_reducible rfl
                      rotate_left
                      ·simp only [Act.put, zpA, zpO, zpS, i64_w, i32_w]
                       rfl
                      refine pure_ (i := 2) (N := some 86) (v := ?_) (a' := ?_) (bm 20 0x7) rfl rfl (any_of HT_.out (by kernel_rfl)) (fun _ _ _ h => h) (Or.inl ⟨by rfl, ?_⟩) ?_ ?_
                      rotate_left
                      ·intro w'
                       go_simp
                       with_reducible rfl
                      rotate_left
                      ·simp only [Act.put, zpA, zpO, zpS, i64_w, i32_w]
                       rfl
                      refine pure_ (i := 8) (N := some 92) (v := ?_) (a' := ?_) (bm 20 0x107) rfl rfl (any_of HT_.out (by kernel_rfl)) (fun _ _ _ h => h) (Or.inl ⟨by rfl, ?_⟩) ?_ ?_
                      rotate_left
                      ·intro w'
                       go_simp
                       with_reducible rfl
                      rotate_left
                      ·simp only [Act.put, zpA, zpO, zpS, i64_w, i32_w]
                       rfl
                      refine pure_ (i := 9) (N := some 93) (v := ?_) (a' := ?_) (bm 20 0x307) rfl rfl (any_of HT_.out (by kernel_rfl)) (fun _ _ _ h => h) (Or.inl ⟨by rfl, ?_⟩) ?_ ?_
                      rotate_left
                      ·intro w'
                       go_simp
                       with_reducible rfl
                      rotate_left
                      ·simp only [Act.put, zpA, zpO, zpS, i64_w, i32_w]
                       rfl
                      refine take_ (i := 3) (N := some 87) (v := ?_) (a' := ?_) (bm 20 0x30f) rfl rfl (take_ofW HT_.out HW_.out (by kernel_rfl)) (fun _ _ _ h => h) (Or.inl ⟨by rfl, ?_⟩) hHeld ?_ ?_
                      rotate_left
                      ·intro w' _
                       go_simp
                       with_reducible rfl
                      rotate_left
                      ·simp only [Act.put, zpA, zpO, zpS, i64_w, i32_w]
                       rfl
                      refine pure_ (i := 4) (N := some 88) (v := ?_) (a' := ?_) (bm 20 0x31f) rfl rfl (any_of HT_.out (by kernel_rfl)) (fun _ _ _ h => h) (Or.inl ⟨by rfl, ?_⟩) ?_ ?_
                      rotate_left
                      ·intro w'
                       go_simp
                       with_reducible rfl
                      rotate_left
                      ·simp only [Act.put, zpA, zpO, zpS, i64_w, i32_w]
                       rfl
                      refine join_ (σ := Value × Nat) 3 (bm 20 0x1ffff) (fun s_ => [(89, s_.1), (90, .string (strOfNums y466)), (95, .tuple #[.agg #[.int .i64 t469, .int .i64 t470, .int .i64 t471, .int .i64 t472, .int .i64 t473, .int .i64 t474, .int .u32 t475, .int .u32 t476, .string t477], .string t478, .int .i64 t479]), (19, .pointer (some ⟨s_.2, 0, none⟩)), (91, .string ((t389.extract 0 10) ++ (strOfNums y466))), (94, .string (((t389.extract 0 10) ++ (strOfNums y466)) ++ (t389.extract 11 t389.size))), (83, .tuple #[.agg #[.int .i64 t469, .int .i64 t470, .int .i64 t471, .int .i64 t472, .int .i64 t473, .int .i64 t474, .int .u32 t475, .int .u32 t476, .string t477], .string t478, .int .i64 t479]), (96, .agg #[.int .i64 t469, .int .i64 t470, .int .i64 t471, .int .i64 t472, .int .i64 t473, .int .i64 t474, .int .u32 t475, .int .u32 t476, .string t477]), (97, .string t478), (98, .int .i64 t479)]) (fun s_ w' => (Kd.R (Kd.int .u8) 5 w' w.heap.size (fun _ => True) s_.1 y466) ∧ (w'.heap[gb402]? = some (.cells #[.int .i64 t391, .int .i64 t392, .int .i64 t393, .int .i64 t394, .int .i64 t395, .int .i64 t396, .int .u32 t397, .int .u32 t398, .string t399] 24 (0, 0))) ∧ (w'.heap[gb453]? = some (.cells #[.int .i64 t442, .int .i64 t443, .int .i64 t444, .int .i64 t445, .int .i64 t446, .int .i64 t447, .int .u32 t448, .int .u32 t449, .string t450] 24 (0, 0))) ∧ (w'.heap[gb465]? = some (.cells #[.int .i64 t454, .int .i64 t455, .int .i64 t456, .int .i64 t457, .int .i64 t458, .int .i64 t459, .int .u32 t460, .int .u32 t461, .string t462] 24 (0, 0))) ∧ (w'.heap[s_.2]? = some (.cells #[.int .i64 0, .int .i64 0, .int .i64 0, .int .i64 0, .int .i64 0, .int .i64 0, .int .u32 0, .int .u32 0, .string (⟨#[]⟩ : ByteArray)] 24 (0, 0))) ∧ (w.heap.size ≤ s_.2) ∧ (w.heap.size ≤ s_.2) ∧ (gb402 ≠ s_.2) ∧ (s_.2 ≠ gb402) ∧ (gb453 ≠ s_.2) ∧ (s_.2 ≠ gb453) ∧ (gb465 ≠ s_.2) ∧ (s_.2 ≠ gb465) ∧ (Below w.heap.size w w')) ?_ ?_
                      rotate_left
                      ·intro hCont
                       refine two_ (i := 5) (j := 16) (Ni := some 89) (Nj := some 19) (bm 20 0x33f) (bm 20 0x1031f) rfl rfl rfl rfl (two_of HT_.out (by kernel_rfl)) (by decide) (by decide) (fun K hK => ?_) (fun K hK => ?_)
                       ·skip
                        refine Kd.R_lit_step (Kd.int .u8) _ 5 ?hg (N := 89) ?hd (xs := ([Go.bits .xor .u8 (bt t389 10) 1] : List Int)) (inner := [.int .u8 (Go.bits .xor .u8 (bt t389 10) 1)]) (ok := fun _ => True) (okp := fun _ => True) ?hr ?hp (fun _ hk => hk) trivial (Below.refl _ _) (Nat.le_refl _) (by simp) ?_; (case hd => rfl); (case hg => rfl); (case hr => first | (go_simp; done) | (go_simp; rfl)); (case hp => exact (Reps.one (show Kd.M (Kd.int .u8) _ _ _ (Go.bits .xor .u8 (bt t389 10) 1) [.int .u8 (Go.bits .xor .u8 (bt t389 10) 1)] from rfl) (Reps.none _ _)))
                        intro v467 w96 ho97 hb hg_ hnew_
                        clear hg_ hnew_
                        (first | rw [← Ny466.out] at ho97 | (simp only [Int.reduceToNat] at ho97; rw [← Ny466.out] at ho97))
                        have n0_ := Aside0.mk (Kd.R_lower ho97 (below_size (BW HB)))
                        have n1_ := Aside0.mk (blk_below (g := gb402) (o := .cells #[.int .i64 t391, .int .i64 t392, .int .i64 t393, .int .i64 t394, .int .i64 t395, .int .i64 t396, .int .u32 t397, .int .u32 t398, .string t399] 24 (0, 0)) (BD BK402) hb)
                        have n2_ := Aside0.mk (blk_below (g := gb453) (o := .cells #[.int .i64 t442, .int .i64 t443, .int .i64 t444, .int .i64 t445, .int .i64 t446, .int .i64 t447, .int .u32 t448, .int .u32 t449, .string t450] 24 (0, 0)) (BD BK453) hb)
                        have n3_ := Aside0.mk (blk_below (g := gb465) (o := .cells #[.int .i64 t454, .int .i64 t455, .int .i64 t456, .int .i64 t457, .int .i64 t458, .int .i64 t459, .int .u32 t460, .int .u32 t461, .string t462] 24 (0, 0)) (BD BK465) hb)
                        have n4_ := Aside0.mk (below_step (BW HB) hb)
                        clear BK402
                        clear BK453
                        clear BK465
                        clear HB
                        have HO468 := n0_
                        have BK402 := n1_
                        have BK453 := n2_
                        have BK465 := n3_
                        have HB := n4_
                        clear n0_ n1_ n2_ n3_ n4_
                        clear hb ho97
                        refine hK.out _ _ trivial (fun hHeld => ?_)
                        clear hK K
                        refine norm_ (a' := ?_) ?_ ?_
                        rotate_left
                        ·show Act.put _ (some 89) _ = _
                         simp only [Act.put, zpA, zpO, zpS, i64_w, i32_w]
                         rfl
                        refine two_ (i := 6) (j := 16) (Ni := some 90) (Nj := some 19) (bm 20 0x37f) (bm 20 0x1033f) rfl rfl rfl rfl (two_of HT_.out (by kernel_rfl)) (by decide) (by decide) (fun K hK => ?_) (fun K hK => ?_)
                        ·skip
                         have hcv98 := own_string (P := Try.prog) Try.underlying42 Try.underlying5 Try.underlying9 (Kd.own_of_R HO468.out)
                         refine value_ (w1 := ?_) (v := ?_) (by rfl) rfl ?_ ?_
                         rotate_left 2
                         ·go_simp
                          constructor
                          ·rfl
                          ·rfl
                         clear hcv98
                         refine hK.out _ _ trivial (fun hHeld => ?_)
                         clear hK K
                         refine norm_ (a' := ?_) ?_ ?_
                         rotate_left
                         ·show Act.put _ (some 90) _ = _
                          simp only [Act.put, zpA, zpO, zpS, i64_w, i32_w]
                          rfl
                         refine pure_ (i := 7) (N := some 91) (v := ?_) (a' := ?_) (bm 20 0x3ff) rfl rfl (any_of HT_.out (by kernel_rfl)) (fun _ _ _ h => h) (Or.inl ⟨by rfl, ?_⟩) ?_ ?_
                         rotate_left
                         ·intro w'
                          go_simp
                          with_reducible rfl
                         rotate_left
                         ·simp only [Act.put, zpA, zpO, zpS, i64_w, i32_w]
                          rfl
                         refine pure_ (i := 10) (N := some 94) (v := ?_) (a' := ?_) (bm 20 0x7ff) rfl rfl (any_of HT_.out (by kernel_rfl)) (fun _ _ _ h => h) (Or.inl ⟨by rfl, ?_⟩) ?_ ?_
                         rotate_left
                         ·intro w'
                          go_simp
                          with_reducible rfl
                         rotate_left
                         ·simp only [Act.put, zpA, zpO, zpS, i64_w, i32_w]
                          rfl
                         refine two_ (i := 11) (j := 16) (Ni := some 95) (Nj := some 19) (bm 20 0xfff) (bm 20 0x107ff) rfl rfl rfl rfl (two_of HT_.out (by kernel_rfl)) (by decide) (by decide) (fun K hK => ?_) (fun K hK => ?_)
                         ·skip
                          refine goes_ Try.func18 (by kernel_rfl) rfl #[.string (((t389.extract 0 10) ++ (strOfNums y466)) ++ (t389.extract 11 t389.size))] (by rfl) rfl rfl (by (try simp only [List.map_toArray, List.map_cons, List.map_nil]); first | done | rfl | (simp only [Int.toNat_natCast]; first | done | rfl) | (rw [Int.toNat_natCast, ByteArray.extract_zero_size]; rfl) | (simp only [List.length_drop, List.length_take]; rfl)) ?_
                          with_reducible refine (ip4_Parse.calls (((t389.extract 0 10) ++ (strOfNums y466)) ++ (t389.extract 11 t389.size)) t469 t470 t471 t472 t473 t474 t475 t476 t477 t478 t479 _ A80.out).mono ?_
                          rintro e w99 ⟨rfl, hb⟩
                          refine ⟨_, rfl, ?_⟩
                          have n0_ := Aside0.mk (Kd.R_below (by (with_reducible repeat (first | apply Kd.R_alloc | apply Kd.R_drewN | apply Kd.R_drew)); exact HO468.out) hb)
                          have n1_ := Aside0.mk (blk_below (g := gb402) (o := .cells #[.int .i64 t391, .int .i64 t392, .int .i64 t393, .int .i64 t394, .int .i64 t395, .int .i64 t396, .int .u32 t397, .int .u32 t398, .string t399] 24 (0, 0)) (BD BK402) hb)
                          have n2_ := Aside0.mk (blk_below (g := gb453) (o := .cells #[.int .i64 t442, .int .i64 t443, .int .i64 t444, .int .i64 t445, .int .i64 t446, .int .i64 t447, .int .u32 t448, .int .u32 t449, .string t450] 24 (0, 0)) (BD BK453) hb)
                          have n3_ := Aside0.mk (blk_below (g := gb465) (o := .cells #[.int .i64 t454, .int .i64 t455, .int .i64 t456, .int .i64 t457, .int .i64 t458, .int .i64 t459, .int .u32 t460, .int .u32 t461, .string t462] 24 (0, 0)) (BD BK465) hb)
                          have n4_ := Aside0.mk (below_step (BW HB) hb)
                          clear HO468
                          clear BK402
                          clear BK453
                          clear BK465
                          clear HB
                          have HO468 := n0_
                          have BK402 := n1_
                          have BK453 := n2_
                          have BK465 := n3_
                          have HB := n4_
                          clear n0_ n1_ n2_ n3_ n4_
                          (try clear hb)
                          (try clear hb2)
                          (try clear hk)
                          (try clear hi)
                          refine hK.out _ _ trivial (fun hHeld => ?_)
                          clear hK K
                          refine norm_ (a' := ?_) ?_ ?_
                          rotate_left
                          ·show Act.put _ (some 95) _ = _
                           simp only [Act.put, zpA, zpO, zpS, i64_w, i32_w]
                           rfl
                          refine pure_ (i := 12) (N := some 83) (v := ?_) (a' := ?_) (bm 20 0x1fff) rfl rfl (any_of HT_.out (by kernel_rfl)) (fun _ _ _ h => h) (Or.inl ⟨by rfl, ?_⟩) ?_ ?_
                          rotate_left
                          ·intro w'
                           go_simp
                           with_reducible rfl
                          rotate_left
                          ·simp only [Act.put, zpA, zpO, zpS, i64_w, i32_w]
                           rfl
                          refine pure_ (i := 13) (N := some 96) (v := ?_) (a' := ?_) (bm 20 0x3fff) rfl rfl (any_of HT_.out (by kernel_rfl)) (fun _ _ _ h => h) (Or.inl ⟨by rfl, ?_⟩) ?_ ?_
                          rotate_left
                          ·intro w'
                           go_simp
                           with_reducible rfl
                          rotate_left
                          ·simp only [Act.put, zpA, zpO, zpS, i64_w, i32_w]
                           rfl
                          refine pure_ (i := 14) (N := some 97) (v := ?_) (a' := ?_) (bm 20 0x7fff) rfl rfl (any_of HT_.out (by kernel_rfl)) (fun _ _ _ h => h) (Or.inl ⟨by rfl, ?_⟩) ?_ ?_
                          rotate_left
                          ·intro w'
                           go_simp
                           with_reducible rfl
                          rotate_left
                          ·simp only [Act.put, zpA, zpO, zpS, i64_w, i32_w]
                           rfl
                          refine pure_ (i := 15) (N := some 98) (v := ?_) (a' := ?_) (bm 20 0xffff) rfl rfl (any_of HT_.out (by kernel_rfl)) (fun _ _ _ h => h) (Or.inl ⟨by rfl, ?_⟩) ?_ ?_
                          rotate_left
                          ·intro w'
                           go_simp
                           with_reducible rfl
                          rotate_left
                          ·simp only [Act.put, zpA, zpO, zpS, i64_w, i32_w]
                           rfl
                          refine one_ (i := 16) (N := some 19) (bm 20 0x1ffff) rfl rfl (one_of HT_.out (by kernel_rfl)) (by decide) (fun K hK => ?_)
                          refine box_step ?hg (N := 19) ?hd (cs := #[.int .i64 0, .int .i64 0, .int .i64 0, .int .i64 0, .int .i64 0, .int .i64 0, .int .u32 0, .int .u32 0, .string (⟨#[]⟩ : ByteArray)]) (t := 24) ?hr ?_; (case hd => rfl); (case hg => rfl); (case hr => first | (go_simp; done) | (go_simp; rfl))
                          intro gb480 hg w100 hbox hb
                          have n0_ := Aside0.mk (Kd.R_below (by (with_reducible repeat (first | apply Kd.R_alloc | apply Kd.R_drewN | apply Kd.R_drew)); exact HO468.out) hb)
                          have n1_ := Aside0.mk (blk_below (g := gb402) (o := .cells #[.int .i64 t391, .int .i64 t392, .int .i64 t393, .int .i64 t394, .int .i64 t395, .int .i64 t396, .int .u32 t397, .int .u32 t398, .string t399] 24 (0, 0)) (BD BK402) hb)
                          have n2_ := Aside0.mk (blk_below (g := gb453) (o := .cells #[.int .i64 t442, .int .i64 t443, .int .i64 t444, .int .i64 t445, .int .i64 t446, .int .i64 t447, .int .u32 t448, .int .u32 t449, .string t450] 24 (0, 0)) (BD BK453) hb)
                          have n3_ := Aside0.mk (blk_below (g := gb465) (o := .cells #[.int .i64 t454, .int .i64 t455, .int .i64 t456, .int .i64 t457, .int .i64 t458, .int .i64 t459, .int .u32 t460, .int .u32 t461, .string t462] 24 (0, 0)) (BD BK465) hb)
                          have n4_ := Aside0.mk (below_step (BW HB) hb)
                          have n5_ := Aside0.mk (hbox)
                          have n6_ := Aside0.mk ((by rw [hg]; exact (below_size (BW HB)) : w.heap.size ≤ gb480))
                          have n7_ := Aside0.mk ((by rw [hg]; exact (below_size (BW HB)) : w.heap.size ≤ gb480))
                          have n8_ := Aside0.mk ((by rw [hg]; exact Nat.ne_of_lt (blk_lt (g := gb402) (o := .cells #[.int .i64 t391, .int .i64 t392, .int .i64 t393, .int .i64 t394, .int .i64 t395, .int .i64 t396, .int .u32 t397, .int .u32 t398, .string t399] 24 (0, 0)) (BD BK402)) : gb402 ≠ gb480))
                          have n9_ := Aside0.mk ((by rw [hg]; exact Nat.ne_of_gt (blk_lt (g := gb402) (o := .cells #[.int .i64 t391, .int .i64 t392, .int .i64 t393, .int .i64 t394, .int .i64 t395, .int .i64 t396, .int .u32 t397, .int .u32 t398, .string t399] 24 (0, 0)) (BD BK402)) : gb480 ≠ gb402))
                          have n10_ := Aside0.mk ((by rw [hg]; exact Nat.ne_of_lt (blk_lt (g := gb453) (o := .cells #[.int .i64 t442, .int .i64 t443, .int .i64 t444, .int .i64 t445, .int .i64 t446, .int .i64 t447, .int .u32 t448, .int .u32 t449, .string t450] 24 (0, 0)) (BD BK453)) : gb453 ≠ gb480))
                          have n11_ := Aside0.mk ((by rw [hg]; exact Nat.ne_of_gt (blk_lt (g := gb453) (o := .cells #[.int .i64 t442, .int .i64 t443, .int .i64 t444, .int .i64 t445, .int .i64 t446, .int .i64 t447, .int .u32 t448, .int .u32 t449, .string t450] 24 (0, 0)) (BD BK453)) : gb480 ≠ gb453))
                          have n12_ := Aside0.mk ((by rw [hg]; exact Nat.ne_of_lt (blk_lt (g := gb465) (o := .cells #[.int .i64 t454, .int .i64 t455, .int .i64 t456, .int .i64 t457, .int .i64 t458, .int .i64 t459, .int .u32 t460, .int .u32 t461, .string t462] 24 (0, 0)) (BD BK465)) : gb465 ≠ gb480))
                          have n13_ := Aside0.mk ((by rw [hg]; exact Nat.ne_of_gt (blk_lt (g := gb465) (o := .cells #[.int .i64 t454, .int .i64 t455, .int .i64 t456, .int .i64 t457, .int .i64 t458, .int .i64 t459, .int .u32 t460, .int .u32 t461, .string t462] 24 (0, 0)) (BD BK465)) : gb480 ≠ gb465))
                          clear HO468
                          clear BK402
                          clear BK453
                          clear BK465
                          clear HB
                          have HO468 := n0_
                          have BK402 := n1_
                          have BK453 := n2_
                          have BK465 := n3_
                          have HB := n4_
                          have BK480 := n5_
                          have GW480 := n6_
                          have GE480 := n7_
                          have NB402_480 := n8_
                          have NB480_402 := n9_
                          have NB453_480 := n10_
                          have NB480_453 := n11_
                          have NB465_480 := n12_
                          have NB480_465 := n13_
                          clear n0_ n1_ n2_ n3_ n4_ n5_ n6_ n7_ n8_ n9_ n10_ n11_ n12_ n13_
                          clear hb hbox hg
                          refine hK.out _ _ trivial (fun hHeld => ?_)
                          clear hK K
                          refine norm_ (a' := ?_) ?_ ?_
                          rotate_left
                          ·show Act.put _ (some 19) _ = _
                           simp only [Act.put, zpA, zpO, zpS, i64_w, i32_w]
                           rfl
                          exact norm_ (by simp only [putAll, Act.put, List.setIfInBounds_toArray, List.set_cons_zero, List.set_cons_succ]) (hCont (v467, gb480) _ ⟨(by (with_reducible repeat (first | apply Kd.R_alloc | apply Kd.R_drewN | apply Kd.R_drew)); exact HO468.out), (BD BK402), (BD BK453), (BD BK465), (BD BK480), GW480.out, GE480.out, NB402_480.out, NB480_402.out, NB453_480.out, NB480_453.out, NB465_480.out, NB480_465.out, (BW HB)⟩)
                         ·skip
                          refine box_step ?hg (N := 19) ?hd (cs := #[.int .i64 0, .int .i64 0, .int .i64 0, .int .i64 0, .int .i64 0, .int .i64 0, .int .u32 0, .int .u32 0, .string (⟨#[]⟩ : ByteArray)]) (t := 24) ?hr ?_; (case hd => rfl); (case hg => rfl); (case hr => first | (go_simp; done) | (go_simp; rfl))
                          intro gb480 hg w99 hbox hb
                          have n0_ := Aside0.mk (Kd.R_below (by (with_reducible repeat (first | apply Kd.R_alloc | apply Kd.R_drewN | apply Kd.R_drew)); exact HO468.out) hb)
                          have n1_ := Aside0.mk (blk_below (g := gb402) (o := .cells #[.int .i64 t391, .int .i64 t392, .int .i64 t393, .int .i64 t394, .int .i64 t395, .int .i64 t396, .int .u32 t397, .int .u32 t398, .string t399] 24 (0, 0)) (BD BK402) hb)
                          have n2_ := Aside0.mk (blk_below (g := gb453) (o := .cells #[.int .i64 t442, .int .i64 t443, .int .i64 t444, .int .i64 t445, .int .i64 t446, .int .i64 t447, .int .u32 t448, .int .u32 t449, .string t450] 24 (0, 0)) (BD BK453) hb)
                          have n3_ := Aside0.mk (blk_below (g := gb465) (o := .cells #[.int .i64 t454, .int .i64 t455, .int .i64 t456, .int .i64 t457, .int .i64 t458, .int .i64 t459, .int .u32 t460, .int .u32 t461, .string t462] 24 (0, 0)) (BD BK465) hb)
                          have n4_ := Aside0.mk (below_step (BW HB) hb)
                          have n5_ := Aside0.mk (hbox)
                          have n6_ := Aside0.mk ((by rw [hg]; exact (below_size (BW HB)) : w.heap.size ≤ gb480))
                          have n7_ := Aside0.mk ((by rw [hg]; exact (below_size (BW HB)) : w.heap.size ≤ gb480))
                          have n8_ := Aside0.mk ((by rw [hg]; exact Nat.ne_of_lt (blk_lt (g := gb402) (o := .cells #[.int .i64 t391, .int .i64 t392, .int .i64 t393, .int .i64 t394, .int .i64 t395, .int .i64 t396, .int .u32 t397, .int .u32 t398, .string t399] 24 (0, 0)) (BD BK402)) : gb402 ≠ gb480))
                          have n9_ := Aside0.mk ((by rw [hg]; exact Nat.ne_of_gt (blk_lt (g := gb402) (o := .cells #[.int .i64 t391, .int .i64 t392, .int .i64 t393, .int .i64 t394, .int .i64 t395, .int .i64 t396, .int .u32 t397, .int .u32 t398, .string t399] 24 (0, 0)) (BD BK402)) : gb480 ≠ gb402))
                          have n10_ := Aside0.mk ((by rw [hg]; exact Nat.ne_of_lt (blk_lt (g := gb453) (o := .cells #[.int .i64 t442, .int .i64 t443, .int .i64 t444, .int .i64 t445, .int .i64 t446, .int .i64 t447, .int .u32 t448, .int .u32 t449, .string t450] 24 (0, 0)) (BD BK453)) : gb453 ≠ gb480))
                          have n11_ := Aside0.mk ((by rw [hg]; exact Nat.ne_of_gt (blk_lt (g := gb453) (o := .cells #[.int .i64 t442, .int .i64 t443, .int .i64 t444, .int .i64 t445, .int .i64 t446, .int .i64 t447, .int .u32 t448, .int .u32 t449, .string t450] 24 (0, 0)) (BD BK453)) : gb480 ≠ gb453))
                          have n12_ := Aside0.mk ((by rw [hg]; exact Nat.ne_of_lt (blk_lt (g := gb465) (o := .cells #[.int .i64 t454, .int .i64 t455, .int .i64 t456, .int .i64 t457, .int .i64 t458, .int .i64 t459, .int .u32 t460, .int .u32 t461, .string t462] 24 (0, 0)) (BD BK465)) : gb465 ≠ gb480))
                          have n13_ := Aside0.mk ((by rw [hg]; exact Nat.ne_of_gt (blk_lt (g := gb465) (o := .cells #[.int .i64 t454, .int .i64 t455, .int .i64 t456, .int .i64 t457, .int .i64 t458, .int .i64 t459, .int .u32 t460, .int .u32 t461, .string t462] 24 (0, 0)) (BD BK465)) : gb480 ≠ gb465))
                          clear HO468
                          clear BK402
                          clear BK453
                          clear BK465
                          clear HB
                          have HO468 := n0_
                          have BK402 := n1_
                          have BK453 := n2_
                          have BK465 := n3_
                          have HB := n4_
                          have BK480 := n5_
                          have GW480 := n6_
                          have GE480 := n7_
                          have NB402_480 := n8_
                          have NB480_402 := n9_
                          have NB453_480 := n10_
                          have NB480_453 := n11_
                          have NB465_480 := n12_
                          have NB480_465 := n13_
                          clear n0_ n1_ n2_ n3_ n4_ n5_ n6_ n7_ n8_ n9_ n10_ n11_ n12_ n13_
                          clear hb hbox hg
                          refine hK.out _ _ trivial (fun hHeld => ?_)
                          clear hK K
                          refine norm_ (a' := ?_) ?_ ?_
                          rotate_left
                          ·show Act.put _ (some 19) _ = _
                           simp only [Act.put, zpA, zpO, zpS, i64_w, i32_w]
                           rfl
                          refine one_ (i := 11) (N := some 95) (bm 20 0x10fff) rfl rfl (one_of HT_.out (by kernel_rfl)) (by decide) (fun K hK => ?_)
                          refine goes_ Try.func18 (by kernel_rfl) rfl #[.string (((t389.extract 0 10) ++ (strOfNums y466)) ++ (t389.extract 11 t389.size))] (by rfl) rfl rfl (by (try simp only [List.map_toArray, List.map_cons, List.map_nil]); first | done | rfl | (simp only [Int.toNat_natCast]; first | done | rfl) | (rw [Int.toNat_natCast, ByteArray.extract_zero_size]; rfl) | (simp only [List.length_drop, List.length_take]; rfl)) ?_
                          with_reducible refine (ip4_Parse.calls (((t389.extract 0 10) ++ (strOfNums y466)) ++ (t389.extract 11 t389.size)) t469 t470 t471 t472 t473 t474 t475 t476 t477 t478 t479 _ A80.out).mono ?_
                          rintro e w100 ⟨rfl, hb⟩
                          refine ⟨_, rfl, ?_⟩
                          have n0_ := Aside0.mk (Kd.R_below (by (with_reducible repeat (first | apply Kd.R_alloc | apply Kd.R_drewN | apply Kd.R_drew)); exact HO468.out) hb)
                          have n1_ := Aside0.mk (blk_below (g := gb402) (o := .cells #[.int .i64 t391, .int .i64 t392, .int .i64 t393, .int .i64 t394, .int .i64 t395, .int .i64 t396, .int .u32 t397, .int .u32 t398, .string t399] 24 (0, 0)) (BD BK402) hb)
                          have n2_ := Aside0.mk (blk_below (g := gb453) (o := .cells #[.int .i64 t442, .int .i64 t443, .int .i64 t444, .int .i64 t445, .int .i64 t446, .int .i64 t447, .int .u32 t448, .int .u32 t449, .string t450] 24 (0, 0)) (BD BK453) hb)
                          have n3_ := Aside0.mk (blk_below (g := gb465) (o := .cells #[.int .i64 t454, .int .i64 t455, .int .i64 t456, .int .i64 t457, .int .i64 t458, .int .i64 t459, .int .u32 t460, .int .u32 t461, .string t462] 24 (0, 0)) (BD BK465) hb)
                          have n4_ := Aside0.mk (blk_below (g := gb480) (o := .cells #[.int .i64 0, .int .i64 0, .int .i64 0, .int .i64 0, .int .i64 0, .int .i64 0, .int .u32 0, .int .u32 0, .string (⟨#[]⟩ : ByteArray)] 24 (0, 0)) (BD BK480) hb)
                          have n5_ := Aside0.mk (below_step (BW HB) hb)
                          clear HO468
                          clear BK402
                          clear BK453
                          clear BK465
                          clear BK480
                          clear HB
                          have HO468 := n0_
                          have BK402 := n1_
                          have BK453 := n2_
                          have BK465 := n3_
                          have BK480 := n4_
                          have HB := n5_
                          clear n0_ n1_ n2_ n3_ n4_ n5_
                          (try clear hb)
                          (try clear hb2)
                          (try clear hk)
                          (try clear hi)
                          refine hK.out _ _ trivial (fun hHeld => ?_)
                          clear hK K
                          refine norm_ (a' := ?_) ?_ ?_
                          rotate_left
                          ·show Act.put _ (some 95) _ = _
                           simp only [Act.put, zpA, zpO, zpS, i64_w, i32_w]
                           rfl
                          refine pure_ (i := 12) (N := some 83) (v := ?_) (a' := ?_) (bm 20 0x11fff) rfl rfl (any_of HT_.out (by kernel_rfl)) (fun _ _ _ h => h) (Or.inl ⟨by rfl, ?_⟩) ?_ ?_
                          rotate_left
                          ·intro w'
                           go_simp
                           with_reducible rfl
                          rotate_left
                          ·simp only [Act.put, zpA, zpO, zpS, i64_w, i32_w]
                           rfl
                          refine pure_ (i := 13) (N := some 96) (v := ?_) (a' := ?_) (bm 20 0x13fff) rfl rfl (any_of HT_.out (by kernel_rfl)) (fun _ _ _ h => h) (Or.inl ⟨by rfl, ?_⟩) ?_ ?_
                          rotate_left
                          ·intro w'
                           go_simp
                           with_reducible rfl
                          rotate_left
                          ·simp only [Act.put, zpA, zpO, zpS, i64_w, i32_w]
                           rfl
                          refine pure_ (i := 14) (N := some 97) (v := ?_) (a' := ?_) (bm 20 0x17fff) rfl rfl (any_of HT_.out (by kernel_rfl)) (fun _ _ _ h => h) (Or.inl ⟨by rfl, ?_⟩) ?_ ?_
                          rotate_left
                          ·intro w'
                           go_simp
                           with_reducible rfl
                          rotate_left
                          ·simp only [Act.put, zpA, zpO, zpS, i64_w, i32_w]
                           rfl
                          refine pure_ (i := 15) (N := some 98) (v := ?_) (a' := ?_) (bm 20 0x1ffff) rfl rfl (any_of HT_.out (by kernel_rfl)) (fun _ _ _ h => h) (Or.inl ⟨by rfl, ?_⟩) ?_ ?_
                          rotate_left
                          ·intro w'
                           go_simp
                           with_reducible rfl
                          rotate_left
                          ·simp only [Act.put, zpA, zpO, zpS, i64_w, i32_w]
                           rfl
                          exact norm_ (by simp only [putAll, Act.put, List.setIfInBounds_toArray, List.set_cons_zero, List.set_cons_succ]) (hCont (v467, gb480) _ ⟨(by (with_reducible repeat (first | apply Kd.R_alloc | apply Kd.R_drewN | apply Kd.R_drew)); exact HO468.out), (BD BK402), (BD BK453), (BD BK465), (BD BK480), GW480.out, GE480.out, NB402_480.out, NB480_402.out, NB453_480.out, NB480_453.out, NB465_480.out, NB480_465.out, (BW HB)⟩)
                        ·skip
                         refine box_step ?hg (N := 19) ?hd (cs := #[.int .i64 0, .int .i64 0, .int .i64 0, .int .i64 0, .int .i64 0, .int .i64 0, .int .u32 0, .int .u32 0, .string (⟨#[]⟩ : ByteArray)]) (t := 24) ?hr ?_; (case hd => rfl); (case hg => rfl); (case hr => first | (go_simp; done) | (go_simp; rfl))
                         intro gb480 hg w98 hbox hb
                         have n0_ := Aside0.mk (Kd.R_below (by (with_reducible repeat (first | apply Kd.R_alloc | apply Kd.R_drewN | apply Kd.R_drew)); exact HO468.out) hb)
                         have n1_ := Aside0.mk (blk_below (g := gb402) (o := .cells #[.int .i64 t391, .int .i64 t392, .int .i64 t393, .int .i64 t394, .int .i64 t395, .int .i64 t396, .int .u32 t397, .int .u32 t398, .string t399] 24 (0, 0)) (BD BK402) hb)
                         have n2_ := Aside0.mk (blk_below (g := gb453) (o := .cells #[.int .i64 t442, .int .i64 t443, .int .i64 t444, .int .i64 t445, .int .i64 t446, .int .i64 t447, .int .u32 t448, .int .u32 t449, .string t450] 24 (0, 0)) (BD BK453) hb)
                         have n3_ := Aside0.mk (blk_below (g := gb465) (o := .cells #[.int .i64 t454, .int .i64 t455, .int .i64 t456, .int .i64 t457, .int .i64 t458, .int .i64 t459, .int .u32 t460, .int .u32 t461, .string t462] 24 (0, 0)) (BD BK465) hb)
                         have n4_ := Aside0.mk (below_step (BW HB) hb)
                         have n5_ := Aside0.mk (hbox)
                         have n6_ := Aside0.mk ((by rw [hg]; exact (below_size (BW HB)) : w.heap.size ≤ gb480))
                         have n7_ := Aside0.mk ((by rw [hg]; exact (below_size (BW HB)) : w.heap.size ≤ gb480))
                         have n8_ := Aside0.mk ((by rw [hg]; exact Nat.ne_of_lt (blk_lt (g := gb402) (o := .cells #[.int .i64 t391, .int .i64 t392, .int .i64 t393, .int .i64 t394, .int .i64 t395, .int .i64 t396, .int .u32 t397, .int .u32 t398, .string t399] 24 (0, 0)) (BD BK402)) : gb402 ≠ gb480))
                         have n9_ := Aside0.mk ((by rw [hg]; exact Nat.ne_of_gt (blk_lt (g := gb402) (o := .cells #[.int .i64 t391, .int .i64 t392, .int .i64 t393, .int .i64 t394, .int .i64 t395, .int .i64 t396, .int .u32 t397, .int .u32 t398, .string t399] 24 (0, 0)) (BD BK402)) : gb480 ≠ gb402))
                         have n10_ := Aside0.mk ((by rw [hg]; exact Nat.ne_of_lt (blk_lt (g := gb453) (o := .cells #[.int .i64 t442, .int .i64 t443, .int .i64 t444, .int .i64 t445, .int .i64 t446, .int .i64 t447, .int .u32 t448, .int .u32 t449, .string t450] 24 (0, 0)) (BD BK453)) : gb453 ≠ gb480))
                         have n11_ := Aside0.mk ((by rw [hg]; exact Nat.ne_of_gt (blk_lt (g := gb453) (o := .cells #[.int .i64 t442, .int .i64 t443, .int .i64 t444, .int .i64 t445, .int .i64 t446, .int .i64 t447, .int .u32 t448, .int .u32 t449, .string t450] 24 (0, 0)) (BD BK453)) : gb480 ≠ gb453))
                         have n12_ := Aside0.mk ((by rw [hg]; exact Nat.ne_of_lt (blk_lt (g := gb465) (o := .cells #[.int .i64 t454, .int .i64 t455, .int .i64 t456, .int .i64 t457, .int .i64 t458, .int .i64 t459, .int .u32 t460, .int .u32 t461, .string t462] 24 (0, 0)) (BD BK465)) : gb465 ≠ gb480))
                         have n13_ := Aside0.mk ((by rw [hg]; exact Nat.ne_of_gt (blk_lt (g := gb465) (o := .cells #[.int .i64 t454, .int .i64 t455, .int .i64 t456, .int .i64 t457, .int .i64 t458, .int .i64 t459, .int .u32 t460, .int .u32 t461, .string t462] 24 (0, 0)) (BD BK465)) : gb480 ≠ gb465))
                         clear HO468
                         clear BK402
                         clear BK453
                         clear BK465
                         clear HB
                         have HO468 := n0_
                         have BK402 := n1_
                         have BK453 := n2_
                         have BK465 := n3_
                         have HB := n4_
                         have BK480 := n5_
                         have GW480 := n6_
                         have GE480 := n7_
                         have NB402_480 := n8_
                         have NB480_402 := n9_
                         have NB453_480 := n10_
                         have NB480_453 := n11_
                         have NB465_480 := n12_
                         have NB480_465 := n13_
                         clear n0_ n1_ n2_ n3_ n4_ n5_ n6_ n7_ n8_ n9_ n10_ n11_ n12_ n13_
                         clear hb hbox hg
                         refine hK.out _ _ trivial (fun hHeld => ?_)
                         clear hK K
                         refine norm_ (a' := ?_) ?_ ?_
                         rotate_left
                         ·show Act.put _ (some 19) _ = _
                          simp only [Act.put, zpA, zpO, zpS, i64_w, i32_w]
                          rfl
                         refine one_ (i := 6) (N := some 90) (bm 20 0x1037f) rfl rfl (one_of HT_.out (by kernel_rfl)) (by decide) (fun K hK => ?_)
                         have hcv99 := own_string (P := Try.prog) Try.underlying42 Try.underlying5 Try.underlying9 (Kd.own_of_R HO468.out)
                         refine value_ (w1 := ?_) (v := ?_) (by rfl) rfl ?_ ?_
                         rotate_left 2
                         ·go_simp
                          constructor
                          ·rfl
                          ·rfl
                         clear hcv99
                         refine hK.out _ _ trivial (fun hHeld => ?_)
                         clear hK K
                         refine norm_ (a' := ?_) ?_ ?_
                         rotate_left
                         ·show Act.put _ (some 90) _ = _
                          simp only [Act.put, zpA, zpO, zpS, i64_w, i32_w]
                          rfl
                         refine pure_ (i := 7) (N := some 91) (v := ?_) (a' := ?_) (bm 20 0x103ff) rfl rfl (any_of HT_.out (by kernel_rfl)) (fun _ _ _ h => h) (Or.inl ⟨by rfl, ?_⟩) ?_ ?_
                         rotate_left
                         ·intro w'
                          go_simp
                          with_reducible rfl
                         rotate_left
                         ·simp only [Act.put, zpA, zpO, zpS, i64_w, i32_w]
                          rfl
                         refine pure_ (i := 10) (N := some 94) (v := ?_) (a' := ?_) (bm 20 0x107ff) rfl rfl (any_of HT_.out (by kernel_rfl)) (fun _ _ _ h => h) (Or.inl ⟨by rfl, ?_⟩) ?_ ?_
                         rotate_left
                         ·intro w'
                          go_simp
                          with_reducible rfl
                         rotate_left
                         ·simp only [Act.put, zpA, zpO, zpS, i64_w, i32_w]
                          rfl
                         refine one_ (i := 11) (N := some 95) (bm 20 0x10fff) rfl rfl (one_of HT_.out (by kernel_rfl)) (by decide) (fun K hK => ?_)
                         refine goes_ Try.func18 (by kernel_rfl) rfl #[.string (((t389.extract 0 10) ++ (strOfNums y466)) ++ (t389.extract 11 t389.size))] (by rfl) rfl rfl (by (try simp only [List.map_toArray, List.map_cons, List.map_nil]); first | done | rfl | (simp only [Int.toNat_natCast]; first | done | rfl) | (rw [Int.toNat_natCast, ByteArray.extract_zero_size]; rfl) | (simp only [List.length_drop, List.length_take]; rfl)) ?_
                         with_reducible refine (ip4_Parse.calls (((t389.extract 0 10) ++ (strOfNums y466)) ++ (t389.extract 11 t389.size)) t469 t470 t471 t472 t473 t474 t475 t476 t477 t478 t479 _ A80.out).mono ?_
                         rintro e w100 ⟨rfl, hb⟩
                         refine ⟨_, rfl, ?_⟩
                         have n0_ := Aside0.mk (Kd.R_below (by (with_reducible repeat (first | apply Kd.R_alloc | apply Kd.R_drewN | apply Kd.R_drew)); exact HO468.out) hb)
                         have n1_ := Aside0.mk (blk_below (g := gb402) (o := .cells #[.int .i64 t391, .int .i64 t392, .int .i64 t393, .int .i64 t394, .int .i64 t395, .int .i64 t396, .int .u32 t397, .int .u32 t398, .string t399] 24 (0, 0)) (BD BK402) hb)
                         have n2_ := Aside0.mk (blk_below (g := gb453) (o := .cells #[.int .i64 t442, .int .i64 t443, .int .i64 t444, .int .i64 t445, .int .i64 t446, .int .i64 t447, .int .u32 t448, .int .u32 t449, .string t450] 24 (0, 0)) (BD BK453) hb)
                         have n3_ := Aside0.mk (blk_below (g := gb465) (o := .cells #[.int .i64 t454, .int .i64 t455, .int .i64 t456, .int .i64 t457, .int .i64 t458, .int .i64 t459, .int .u32 t460, .int .u32 t461, .string t462] 24 (0, 0)) (BD BK465) hb)
                         have n4_ := Aside0.mk (blk_below (g := gb480) (o := .cells #[.int .i64 0, .int .i64 0, .int .i64 0, .int .i64 0, .int .i64 0, .int .i64 0, .int .u32 0, .int .u32 0, .string (⟨#[]⟩ : ByteArray)] 24 (0, 0)) (BD BK480) hb)
                         have n5_ := Aside0.mk (below_step (BW HB) hb)
                         clear HO468
                         clear BK402
                         clear BK453
                         clear BK465
                         clear BK480
                         clear HB
                         have HO468 := n0_
                         have BK402 := n1_
                         have BK453 := n2_
                         have BK465 := n3_
                         have BK480 := n4_
                         have HB := n5_
                         clear n0_ n1_ n2_ n3_ n4_ n5_
                         (try clear hb)
                         (try clear hb2)
                         (try clear hk)
                         (try clear hi)
                         refine hK.out _ _ trivial (fun hHeld => ?_)
                         clear hK K
                         refine norm_ (a' := ?_) ?_ ?_
                         rotate_left
                         ·show Act.put _ (some 95) _ = _
                          simp only [Act.put, zpA, zpO, zpS, i64_w, i32_w]
                          rfl
                         refine pure_ (i := 12) (N := some 83) (v := ?_) (a' := ?_) (bm 20 0x11fff) rfl rfl (any_of HT_.out (by kernel_rfl)) (fun _ _ _ h => h) (Or.inl ⟨by rfl, ?_⟩) ?_ ?_
                         rotate_left
                         ·intro w'
                          go_simp
                          with_reducible rfl
                         rotate_left
                         ·simp only [Act.put, zpA, zpO, zpS, i64_w, i32_w]
                          rfl
                         refine pure_ (i := 13) (N := some 96) (v := ?_) (a' := ?_) (bm 20 0x13fff) rfl rfl (any_of HT_.out (by kernel_rfl)) (fun _ _ _ h => h) (Or.inl ⟨by rfl, ?_⟩) ?_ ?_
                         rotate_left
                         ·intro w'
                          go_simp
                          with_reducible rfl
                         rotate_left
                         ·simp only [Act.put, zpA, zpO, zpS, i64_w, i32_w]
                          rfl
                         refine pure_ (i := 14) (N := some 97) (v := ?_) (a' := ?_) (bm 20 0x17fff) rfl rfl (any_of HT_.out (by kernel_rfl)) (fun _ _ _ h => h) (Or.inl ⟨by rfl, ?_⟩) ?_ ?_
                         rotate_left
                         ·intro w'
                          go_simp
                          with_reducible rfl
                         rotate_left
                         ·simp only [Act.put, zpA, zpO, zpS, i64_w, i32_w]
                          rfl
                         refine pure_ (i := 15) (N := some 98) (v := ?_) (a' := ?_) (bm 20 0x1ffff) rfl rfl (any_of HT_.out (by kernel_rfl)) (fun _ _ _ h => h) (Or.inl ⟨by rfl, ?_⟩) ?_ ?_
                         rotate_left
                         ·intro w'
                          go_simp
                          with_reducible rfl
                         rotate_left
                         ·simp only [Act.put, zpA, zpO, zpS, i64_w, i32_w]
                          rfl
                         exact norm_ (by simp only [putAll, Act.put, List.setIfInBounds_toArray, List.set_cons_zero, List.set_cons_succ]) (hCont (v467, gb480) _ ⟨(by (with_reducible repeat (first | apply Kd.R_alloc | apply Kd.R_drewN | apply Kd.R_drew)); exact HO468.out), (BD BK402), (BD BK453), (BD BK465), (BD BK480), GW480.out, GE480.out, NB402_480.out, NB480_402.out, NB453_480.out, NB480_453.out, NB465_480.out, NB480_465.out, (BW HB)⟩)
                       ·skip
                        refine box_step ?hg (N := 19) ?hd (cs := #[.int .i64 0, .int .i64 0, .int .i64 0, .int .i64 0, .int .i64 0, .int .i64 0, .int .u32 0, .int .u32 0, .string (⟨#[]⟩ : ByteArray)]) (t := 24) ?hr ?_; (case hd => rfl); (case hg => rfl); (case hr => first | (go_simp; done) | (go_simp; rfl))
                        intro gb480 hg w96 hbox hb
                        have n0_ := Aside0.mk (blk_below (g := gb402) (o := .cells #[.int .i64 t391, .int .i64 t392, .int .i64 t393, .int .i64 t394, .int .i64 t395, .int .i64 t396, .int .u32 t397, .int .u32 t398, .string t399] 24 (0, 0)) (BD BK402) hb)
                        have n1_ := Aside0.mk (blk_below (g := gb453) (o := .cells #[.int .i64 t442, .int .i64 t443, .int .i64 t444, .int .i64 t445, .int .i64 t446, .int .i64 t447, .int .u32 t448, .int .u32 t449, .string t450] 24 (0, 0)) (BD BK453) hb)
                        have n2_ := Aside0.mk (blk_below (g := gb465) (o := .cells #[.int .i64 t454, .int .i64 t455, .int .i64 t456, .int .i64 t457, .int .i64 t458, .int .i64 t459, .int .u32 t460, .int .u32 t461, .string t462] 24 (0, 0)) (BD BK465) hb)
                        have n3_ := Aside0.mk (below_step (BW HB) hb)
                        have n4_ := Aside0.mk (hbox)
                        have n5_ := Aside0.mk ((by rw [hg]; exact (below_size (BW HB)) : w.heap.size ≤ gb480))
                        have n6_ := Aside0.mk ((by rw [hg]; exact (below_size (BW HB)) : w.heap.size ≤ gb480))
                        have n7_ := Aside0.mk ((by rw [hg]; exact Nat.ne_of_lt (blk_lt (g := gb402) (o := .cells #[.int .i64 t391, .int .i64 t392, .int .i64 t393, .int .i64 t394, .int .i64 t395, .int .i64 t396, .int .u32 t397, .int .u32 t398, .string t399] 24 (0, 0)) (BD BK402)) : gb402 ≠ gb480))
                        have n8_ := Aside0.mk ((by rw [hg]; exact Nat.ne_of_gt (blk_lt (g := gb402) (o := .cells #[.int .i64 t391, .int .i64 t392, .int .i64 t393, .int .i64 t394, .int .i64 t395, .int .i64 t396, .int .u32 t397, .int .u32 t398, .string t399] 24 (0, 0)) (BD BK402)) : gb480 ≠ gb402))
                        have n9_ := Aside0.mk ((by rw [hg]; exact Nat.ne_of_lt (blk_lt (g := gb453) (o := .cells #[.int .i64 t442, .int .i64 t443, .int .i64 t444, .int .i64 t445, .int .i64 t446, .int .i64 t447, .int .u32 t448, .int .u32 t449, .string t450] 24 (0, 0)) (BD BK453)) : gb453 ≠ gb480))
                        have n10_ := Aside0.mk ((by rw [hg]; exact Nat.ne_of_gt (blk_lt (g := gb453) (o := .cells #[.int .i64 t442, .int .i64 t443, .int .i64 t444, .int .i64 t445, .int .i64 t446, .int .i64 t447, .int .u32 t448, .int .u32 t449, .string t450] 24 (0, 0)) (BD BK453)) : gb480 ≠ gb453))
                        have n11_ := Aside0.mk ((by rw [hg]; exact Nat.ne_of_lt (blk_lt (g := gb465) (o := .cells #[.int .i64 t454, .int .i64 t455, .int .i64 t456, .int .i64 t457, .int .i64 t458, .int .i64 t459, .int .u32 t460, .int .u32 t461, .string t462] 24 (0, 0)) (BD BK465)) : gb465 ≠ gb480))
                        have n12_ := Aside0.mk ((by rw [hg]; exact Nat.ne_of_gt (blk_lt (g := gb465) (o := .cells #[.int .i64 t454, .int .i64 t455, .int .i64 t456, .int .i64 t457, .int .i64 t458, .int .i64 t459, .int .u32 t460, .int .u32 t461, .string t462] 24 (0, 0)) (BD BK465)) : gb480 ≠ gb465))
                        clear BK402
                        clear BK453
                        clear BK465
                        clear HB
                        have BK402 := n0_
                        have BK453 := n1_
                        have BK465 := n2_
                        have HB := n3_
                        have BK480 := n4_
                        have GW480 := n5_
                        have GE480 := n6_
                        have NB402_480 := n7_
                        have NB480_402 := n8_
                        have NB453_480 := n9_
                        have NB480_453 := n10_
                        have NB465_480 := n11_
                        have NB480_465 := n12_
                        clear n0_ n1_ n2_ n3_ n4_ n5_ n6_ n7_ n8_ n9_ n10_ n11_ n12_
                        clear hb hbox hg
                        refine hK.out _ _ trivial (fun hHeld => ?_)
                        clear hK K
                        refine norm_ (a' := ?_) ?_ ?_
                        rotate_left
                        ·show Act.put _ (some 19) _ = _
                         simp only [Act.put, zpA, zpO, zpS, i64_w, i32_w]
                         rfl
                        refine one_ (i := 5) (N := some 89) (bm 20 0x1033f) rfl rfl (one_of HT_.out (by kernel_rfl)) (by decide) (fun K hK => ?_)
                        refine Kd.R_lit_step (Kd.int .u8) _ 5 ?hg (N := 89) ?hd (xs := ([Go.bits .xor .u8 (bt t389 10) 1] : List Int)) (inner := [.int .u8 (Go.bits .xor .u8 (bt t389 10) 1)]) (ok := fun _ => True) (okp := fun _ => True) ?hr ?hp (fun _ hk => hk) trivial (Below.refl _ _) (Nat.le_refl _) (by simp) ?_; (case hd => rfl); (case hg => rfl); (case hr => first | (go_simp; done) | (go_simp; rfl)); (case hp => exact (Reps.one (show Kd.M (Kd.int .u8) _ _ _ (Go.bits .xor .u8 (bt t389 10) 1) [.int .u8 (Go.bits .xor .u8 (bt t389 10) 1)] from rfl) (Reps.none _ _)))
                        intro v467 w97 ho98 hb hg_ hnew_
                        clear hg_ hnew_
                        (first | rw [← Ny466.out] at ho98 | (simp only [Int.reduceToNat] at ho98; rw [← Ny466.out] at ho98))
                        have n0_ := Aside0.mk (Kd.R_lower ho98 (below_size (BW HB)))
                        have n1_ := Aside0.mk (blk_below (g := gb402) (o := .cells #[.int .i64 t391, .int .i64 t392, .int .i64 t393, .int .i64 t394, .int .i64 t395, .int .i64 t396, .int .u32 t397, .int .u32 t398, .string t399] 24 (0, 0)) (BD BK402) hb)
                        have n2_ := Aside0.mk (blk_below (g := gb453) (o := .cells #[.int .i64 t442, .int .i64 t443, .int .i64 t444, .int .i64 t445, .int .i64 t446, .int .i64 t447, .int .u32 t448, .int .u32 t449, .string t450] 24 (0, 0)) (BD BK453) hb)
                        have n3_ := Aside0.mk (blk_below (g := gb465) (o := .cells #[.int .i64 t454, .int .i64 t455, .int .i64 t456, .int .i64 t457, .int .i64 t458, .int .i64 t459, .int .u32 t460, .int .u32 t461, .string t462] 24 (0, 0)) (BD BK465) hb)
                        have n4_ := Aside0.mk (blk_below (g := gb480) (o := .cells #[.int .i64 0, .int .i64 0, .int .i64 0, .int .i64 0, .int .i64 0, .int .i64 0, .int .u32 0, .int .u32 0, .string (⟨#[]⟩ : ByteArray)] 24 (0, 0)) (BD BK480) hb)
                        have n5_ := Aside0.mk (below_step (BW HB) hb)
                        clear BK402
                        clear BK453
                        clear BK465
                        clear BK480
                        clear HB
                        have HO468 := n0_
                        have BK402 := n1_
                        have BK453 := n2_
                        have BK465 := n3_
                        have BK480 := n4_
                        have HB := n5_
                        clear n0_ n1_ n2_ n3_ n4_ n5_
                        clear hb ho98
                        refine hK.out _ _ trivial (fun hHeld => ?_)
                        clear hK K
                        refine norm_ (a' := ?_) ?_ ?_
                        rotate_left
                        ·show Act.put _ (some 89) _ = _
                         simp only [Act.put, zpA, zpO, zpS, i64_w, i32_w]
                         rfl
                        refine one_ (i := 6) (N := some 90) (bm 20 0x1037f) rfl rfl (one_of HT_.out (by kernel_rfl)) (by decide) (fun K hK => ?_)
                        have hcv99 := own_string (P := Try.prog) Try.underlying42 Try.underlying5 Try.underlying9 (Kd.own_of_R HO468.out)
                        refine value_ (w1 := ?_) (v := ?_) (by rfl) rfl ?_ ?_
                        rotate_left 2
                        ·go_simp
                         constructor
                         ·rfl
                         ·rfl
                        clear hcv99
                        refine hK.out _ _ trivial (fun hHeld => ?_)
                        clear hK K
                        refine norm_ (a' := ?_) ?_ ?_
                        rotate_left
                        ·show Act.put _ (some 90) _ = _
                         simp only [Act.put, zpA, zpO, zpS, i64_w, i32_w]
                         rfl
                        refine pure_ (i := 7) (N := some 91) (v := ?_) (a' := ?_) (bm 20 0x103ff) rfl rfl (any_of HT_.out (by kernel_rfl)) (fun _ _ _ h => h) (Or.inl ⟨by rfl, ?_⟩) ?_ ?_
                        rotate_left
                        ·intro w'
                         go_simp
                         with_reducible rfl
                        rotate_left
                        ·simp only [Act.put, zpA, zpO, zpS, i64_w, i32_w]
                         rfl
                        refine pure_ (i := 10) (N := some 94) (v := ?_) (a' := ?_) (bm 20 0x107ff) rfl rfl (any_of HT_.out (by kernel_rfl)) (fun _ _ _ h => h) (Or.inl ⟨by rfl, ?_⟩) ?_ ?_
                        rotate_left
                        ·intro w'
                         go_simp
                         with_reducible rfl
                        rotate_left
                        ·simp only [Act.put, zpA, zpO, zpS, i64_w, i32_w]
                         rfl
                        refine one_ (i := 11) (N := some 95) (bm 20 0x10fff) rfl rfl (one_of HT_.out (by kernel_rfl)) (by decide) (fun K hK => ?_)
                        refine goes_ Try.func18 (by kernel_rfl) rfl #[.string (((t389.extract 0 10) ++ (strOfNums y466)) ++ (t389.extract 11 t389.size))] (by rfl) rfl rfl (by (try simp only [List.map_toArray, List.map_cons, List.map_nil]); first | done | rfl | (simp only [Int.toNat_natCast]; first | done | rfl) | (rw [Int.toNat_natCast, ByteArray.extract_zero_size]; rfl) | (simp only [List.length_drop, List.length_take]; rfl)) ?_
                        with_reducible refine (ip4_Parse.calls (((t389.extract 0 10) ++ (strOfNums y466)) ++ (t389.extract 11 t389.size)) t469 t470 t471 t472 t473 t474 t475 t476 t477 t478 t479 _ A80.out).mono ?_
                        rintro e w100 ⟨rfl, hb⟩
                        refine ⟨_, rfl, ?_⟩
                        have n0_ := Aside0.mk (Kd.R_below (by (with_reducible repeat (first | apply Kd.R_alloc | apply Kd.R_drewN | apply Kd.R_drew)); exact HO468.out) hb)
                        have n1_ := Aside0.mk (blk_below (g := gb402) (o := .cells #[.int .i64 t391, .int .i64 t392, .int .i64 t393, .int .i64 t394, .int .i64 t395, .int .i64 t396, .int .u32 t397, .int .u32 t398, .string t399] 24 (0, 0)) (BD BK402) hb)
                        have n2_ := Aside0.mk (blk_below (g := gb453) (o := .cells #[.int .i64 t442, .int .i64 t443, .int .i64 t444, .int .i64 t445, .int .i64 t446, .int .i64 t447, .int .u32 t448, .int .u32 t449, .string t450] 24 (0, 0)) (BD BK453) hb)
                        have n3_ := Aside0.mk (blk_below (g := gb465) (o := .cells #[.int .i64 t454, .int .i64 t455, .int .i64 t456, .int .i64 t457, .int .i64 t458, .int .i64 t459, .int .u32 t460, .int .u32 t461, .string t462] 24 (0, 0)) (BD BK465) hb)
                        have n4_ := Aside0.mk (blk_below (g := gb480) (o := .cells #[.int .i64 0, .int .i64 0, .int .i64 0, .int .i64 0, .int .i64 0, .int .i64 0, .int .u32 0, .int .u32 0, .string (⟨#[]⟩ : ByteArray)] 24 (0, 0)) (BD BK480) hb)
                        have n5_ := Aside0.mk (below_step (BW HB) hb)
                        clear HO468
                        clear BK402
                        clear BK453
                        clear BK465
                        clear BK480
                        clear HB
                        have HO468 := n0_
                        have BK402 := n1_
                        have BK453 := n2_
                        have BK465 := n3_
                        have BK480 := n4_
                        have HB := n5_
                        clear n0_ n1_ n2_ n3_ n4_ n5_
                        (try clear hb)
                        (try clear hb2)
                        (try clear hk)
                        (try clear hi)
                        refine hK.out _ _ trivial (fun hHeld => ?_)
                        clear hK K
                        refine norm_ (a' := ?_) ?_ ?_
                        rotate_left
                        ·show Act.put _ (some 95) _ = _
                         simp only [Act.put, zpA, zpO, zpS, i64_w, i32_w]
                         rfl
                        refine pure_ (i := 12) (N := some 83) (v := ?_) (a' := ?_) (bm 20 0x11fff) rfl rfl (any_of HT_.out (by kernel_rfl)) (fun _ _ _ h => h) (Or.inl ⟨by rfl, ?_⟩) ?_ ?_
                        rotate_left
                        ·intro w'
                         go_simp
                         with_reducible rfl
                        rotate_left
                        ·simp only [Act.put, zpA, zpO, zpS, i64_w, i32_w]
                         rfl
                        refine pure_ (i := 13) (N := some 96) (v := ?_) (a' := ?_) (bm 20 0x13fff) rfl rfl (any_of HT_.out (by kernel_rfl)) (fun _ _ _ h => h) (Or.inl ⟨by rfl, ?_⟩) ?_ ?_
                        rotate_left
                        ·intro w'
                         go_simp
                         with_reducible rfl
                        rotate_left
                        ·simp only [Act.put, zpA, zpO, zpS, i64_w, i32_w]
                         rfl
                        refine pure_ (i := 14) (N := some 97) (v := ?_) (a' := ?_) (bm 20 0x17fff) rfl rfl (any_of HT_.out (by kernel_rfl)) (fun _ _ _ h => h) (Or.inl ⟨by rfl, ?_⟩) ?_ ?_
                        rotate_left
                        ·intro w'
                         go_simp
                         with_reducible rfl
                        rotate_left
                        ·simp only [Act.put, zpA, zpO, zpS, i64_w, i32_w]
                         rfl
                        refine pure_ (i := 15) (N := some 98) (v := ?_) (a' := ?_) (bm 20 0x1ffff) rfl rfl (any_of HT_.out (by kernel_rfl)) (fun _ _ _ h => h) (Or.inl ⟨by rfl, ?_⟩) ?_ ?_
                        rotate_left
                        ·intro w'
                         go_simp
                         with_reducible rfl
                        rotate_left
                        ·simp only [Act.put, zpA, zpO, zpS, i64_w, i32_w]
                         rfl
                        exact norm_ (by simp only [putAll, Act.put, List.setIfInBounds_toArray, List.set_cons_zero, List.set_cons_succ]) (hCont (v467, gb480) _ ⟨(by (with_reducible repeat (first | apply Kd.R_alloc | apply Kd.R_drewN | apply Kd.R_drew)); exact HO468.out), (BD BK402), (BD BK453), (BD BK465), (BD BK480), GW480.out, GE480.out, NB402_480.out, NB480_402.out, NB453_480.out, NB480_453.out, NB465_480.out, NB480_465.out, (BW HB)⟩)
                      rintro ⟨v467, gb480⟩ w101 ⟨h0_, h1_, h2_, h3_, h4_, h5_, h6_, h7_, h8_, h9_, h10_, h11_, h12_, h13_⟩
                      have n0_ : Aside0 (Kd.R (Kd.int .u8) 5 w101 w.heap.size (fun _ => True) v467 y466) := ⟨h0_⟩
                      have n1_ : Aside0 (w101.heap[gb402]? = some (.cells #[.int .i64 t391, .int .i64 t392, .int .i64 t393, .int .i64 t394, .int .i64 t395, .int .i64 t396, .int .u32 t397, .int .u32 t398, .string t399] 24 (0, 0))) := ⟨h1_⟩
                      have n2_ : Aside0 (w101.heap[gb453]? = some (.cells #[.int .i64 t442, .int .i64 t443, .int .i64 t444, .int .i64 t445, .int .i64 t446, .int .i64 t447, .int .u32 t448, .int .u32 t449, .string t450] 24 (0, 0))) := ⟨h2_⟩
                      have n3_ : Aside0 (w101.heap[gb465]? = some (.cells #[.int .i64 t454, .int .i64 t455, .int .i64 t456, .int .i64 t457, .int .i64 t458, .int .i64 t459, .int .u32 t460, .int .u32 t461, .string t462] 24 (0, 0))) := ⟨h3_⟩
                      have n4_ : Aside0 (w101.heap[gb480]? = some (.cells #[.int .i64 0, .int .i64 0, .int .i64 0, .int .i64 0, .int .i64 0, .int .i64 0, .int .u32 0, .int .u32 0, .string (⟨#[]⟩ : ByteArray)] 24 (0, 0))) := ⟨h4_⟩
                      have n5_ : Aside0 (w.heap.size ≤ gb480) := ⟨h5_⟩
                      have n6_ : Aside0 (w.heap.size ≤ gb480) := ⟨h6_⟩
                      have n7_ : Aside0 (gb402 ≠ gb480) := ⟨h7_⟩
                      have n8_ : Aside0 (gb480 ≠ gb402) := ⟨h8_⟩
                      have n9_ : Aside0 (gb453 ≠ gb480) := ⟨h9_⟩
                      have n10_ : Aside0 (gb480 ≠ gb453) := ⟨h10_⟩
                      have n11_ : Aside0 (gb465 ≠ gb480) := ⟨h11_⟩
                      have n12_ : Aside0 (gb480 ≠ gb465) := ⟨h12_⟩
                      have n13_ : Aside0 (Below w.heap.size w w101) := ⟨h13_⟩
                      clear BK402
                      clear BK453
                      clear BK465
                      clear HB
                      clear h0_ h1_ h2_ h3_ h4_ h5_ h6_ h7_ h8_ h9_ h10_ h11_ h12_ h13_
                      have HO468 := n0_
                      have BK402 := n1_
                      have BK453 := n2_
                      have BK465 := n3_
                      have BK480 := n4_
                      have GW480 := n5_
                      have GE480 := n6_
                      have NB402_480 := n7_
                      have NB480_402 := n8_
                      have NB453_480 := n9_
                      have NB480_453 := n10_
                      have NB465_480 := n11_
                      have NB480_465 := n12_
                      have HB := n13_
                      clear n0_ n1_ n2_ n3_ n4_ n5_ n6_ n7_ n8_ n9_ n10_ n11_ n12_ n13_
                      have hHeld := trivial
                      refine norm_ (a' := ?_) ?_ ?_
                      rotate_left
                      ·simp only [putAll, Act.put, List.setIfInBounds_toArray, List.set_cons_zero, List.set_cons_succ]
                       rfl
                      refine one_ (i := 17) (N := none) (bm 20 0x3ffff) rfl rfl (one_of HT_.out (by kernel_rfl)) (by decide) (fun K hK => ?_)
                      have hs102 : w101.cell? ⟨gb480, 0, none⟩ = some (.int .i64 0) := (blk_cell BK480.out 0).trans rfl
                      have hfs102 := blk_frozen BK480.out 0
                      have hns102_0 := NB402_480.out
                      have hns102_1 := NB453_480.out
                      have hns102_2 := NB465_480.out
                      have hms102_0 := NB480_402.out
                      have hms102_1 := NB480_453.out
                      have hms102_2 := NB480_465.out
                      have hs103 : w101.cell? ⟨gb480, 1, none⟩ = some (.int .i64 0) := (blk_cell BK480.out 1).trans rfl
                      have hfs103 := blk_frozen BK480.out 1
                      have hns103_0 := NB402_480.out
                      have hns103_1 := NB453_480.out
                      have hns103_2 := NB465_480.out
                      have hms103_0 := NB480_402.out
                      have hms103_1 := NB480_453.out
                      have hms103_2 := NB480_465.out
                      have hs104 : w101.cell? ⟨gb480, 2, none⟩ = some (.int .i64 0) := (blk_cell BK480.out 2).trans rfl
                      have hfs104 := blk_frozen BK480.out 2
                      have hns104_0 := NB402_480.out
                      have hns104_1 := NB453_480.out
                      have hns104_2 := NB465_480.out
                      have hms104_0 := NB480_402.out
                      have hms104_1 := NB480_453.out
                      have hms104_2 := NB480_465.out
                      have hs105 : w101.cell? ⟨gb480, 3, none⟩ = some (.int .i64 0) := (blk_cell BK480.out 3).trans rfl
                      have hfs105 := blk_frozen BK480.out 3
                      have hns105_0 := NB402_480.out
                      have hns105_1 := NB453_480.out
                      have hns105_2 := NB465_480.out
                      have hms105_0 := NB480_402.out
                      have hms105_1 := NB480_453.out
                      have hms105_2 := NB480_465.out
                      have hs106 : w101.cell? ⟨gb480, 4, none⟩ = some (.int .i64 0) := (blk_cell BK480.out 4).trans rfl
                      have hfs106 := blk_frozen BK480.out 4
                      have hns106_0 := NB402_480.out
                      have hns106_1 := NB453_480.out
                      have hns106_2 := NB465_480.out
                      have hms106_0 := NB480_402.out
                      have hms106_1 := NB480_453.out
                      have hms106_2 := NB480_465.out
                      have hs107 : w101.cell? ⟨gb480, 5, none⟩ = some (.int .i64 0) := (blk_cell BK480.out 5).trans rfl
                      have hfs107 := blk_frozen BK480.out 5
                      have hns107_0 := NB402_480.out
                      have hns107_1 := NB453_480.out
                      have hns107_2 := NB465_480.out
                      have hms107_0 := NB480_402.out
                      have hms107_1 := NB480_453.out
                      have hms107_2 := NB480_465.out
                      have hs108 : w101.cell? ⟨gb480, 6, none⟩ = some (.int .u32 0) := (blk_cell BK480.out 6).trans rfl
                      have hfs108 := blk_frozen BK480.out 6
                      have hns108_0 := NB402_480.out
                      have hns108_1 := NB453_480.out
                      have hns108_2 := NB465_480.out
                      have hms108_0 := NB480_402.out
                      have hms108_1 := NB480_453.out
                      have hms108_2 := NB480_465.out
                      have hs109 : w101.cell? ⟨gb480, 7, none⟩ = some (.int .u32 0) := (blk_cell BK480.out 7).trans rfl
                      have hfs109 := blk_frozen BK480.out 7
                      have hns109_0 := NB402_480.out
                      have hns109_1 := NB453_480.out
                      have hns109_2 := NB465_480.out
                      have hms109_0 := NB480_402.out
                      have hms109_1 := NB480_453.out
                      have hms109_2 := NB480_465.out
                      have hs110 : w101.cell? ⟨gb480, 8, none⟩ = some (.string (⟨#[]⟩ : ByteArray)) := (blk_cell BK480.out 8).trans rfl
                      have hfs110 := blk_frozen BK480.out 8
                      have hns110_0 := NB402_480.out
                      have hns110_1 := NB453_480.out
                      have hns110_2 := NB465_480.out
                      have hms110_0 := NB480_402.out
                      have hms110_1 := NB480_453.out
                      have hms110_2 := NB480_465.out
                      refine skip_ (w1 := ?_) (by rfl) rfl ?_ ?_
                      rotate_left
                      ·go_simp
                       rfl
                      refine hK.out _ _ trivial (fun hHeld => ?_)
                      clear hK K
                      refine pure_ (i := 18) (N := some 20) (v := ?_) (a' := ?_) (bm 20 0x7ffff) rfl rfl (any_of HT_.out (by kernel_rfl)) (fun _ _ _ h => h) (Or.inl ⟨by rfl, ?_⟩) ?_ ?_
                      rotate_left
                      ·intro w'
                       go_simp
                       with_reducible rfl
                      rotate_left
                      ·simp only [Act.put, zpA, zpO, zpS, i64_w, i32_w]
                       rfl
                      refine pure_ (i := 19) (N := some 21) (v := ?_) (a' := ?_) (bm 20 0xfffff) rfl rfl (any_of HT_.out (by kernel_rfl)) (fun _ _ _ h => h) (Or.inl ⟨by rfl, ?_⟩) ?_ ?_
                      rotate_left
                      ·intro w'
                       go_simp
                       with_reducible rfl
                      rotate_left
                      ·simp only [Act.put, zpA, zpO, zpS, i64_w, i32_w]
                       rfl
                      refine done_ (done_of HT_.out (by kernel_rfl)) ?_
                      try go_wp2
                      go_ret
                      exact ⟨by first | rfl | (simp [errW_none, errW_some] <;> rfl) | (simp only [← hji5, ← hji15]; first | rfl | (simp [errW_none, errW_some] <;> rfl)) | (simp [*, errW_none, errW_some] <;> rfl), BW HB⟩
                     ·rw [if_neg c84] at H
                      have c84b0 : (t464 == 4) = false := beq_eq_false_iff_ne.mpr c84
                      have c84b1 : (t464 != 4) = true := bne_iff_ne.mpr c84
                      exact absurd ((Option.some.inj H).trans hr_) (by decide)
                    ·rw [if_neg c83] at H
                     have c83b0 : (t452 == 3) = false := beq_eq_false_iff_ne.mpr c83
                     have c83b1 : (t452 != 3) = true := bne_iff_ne.mpr c83
                     exact absurd ((Option.some.inj H).trans hr_) (by decide)
                   ·rw [if_neg c82] at H
                    have c82b0 : (t401 == x12_18) = false := beq_eq_false_iff_ne.mpr c82
                    have c82b1 : (t401 != x12_18) = true := bne_iff_ne.mpr c82
                    exact absurd ((Option.some.inj H).trans hr_) (by decide)
                 ·rw [if_neg c79] at H
                  exact absurd H (by simp)
                ·rw [if_neg c78] at H
                 exact absurd H (by simp)
               ·rw [if_neg c77] at H
                exact absurd H (by simp)
              ·rw [if_neg c75] at H
               exact absurd H (by simp)
             ·rw [if_neg c74] at H
              exact absurd H (by simp)
            ·rw [if_neg c73] at H
             exact absurd H (by simp)
           ·rw [if_neg c69] at H
            exact absurd H (by simp)
          ·rw [if_neg c68] at H
           exact absurd H (by simp)
      ·rw [if_neg c17] at H
       exact absurd H (by simp)
     ·rw [if_neg c16] at H
      exact absurd H (by simp)

/-- THE ONE PURE STATEMENT of weighbridgelaw04_Ip4Order: yours. -/
def weighbridgelaw04_Ip4Order.Pure : Prop := ∀ (a0 : ByteArray) (a1 : Int), a0.size ≤ 140737488351232 → (Lit.int .u8 a1).wf = true → ∃ k, weighbridgelaw04_Ip4Order.f k a0 a1 = some true
theorem weighbridgelaw04_Ip4Order.walk (P : weighbridgelaw04_Ip4Order.Pure) (a0 : ByteArray) (a1 : Int) (w : World) (w0 : a0.size ≤ 140737488351232) (w1 : (Lit.int .u8 a1).wf = true) :
  Calls Try.prog 8 #[.string a0, .int .u8 a1] w fun e w' => e = .returned (.bool true) ∧ Below w.heap.size w w' := by
 obtain ⟨k, h⟩ := P a0 a1 w0 w1
 refine (weighbridgelaw04_Ip4Order.calls k a0 a1 true w h rfl).mono ?_
 rintro e w' ⟨rfl, hd⟩
 exact ⟨rfl, hd⟩
end Go.Proofs.Ythdaldicdhpnoaa.Pr
