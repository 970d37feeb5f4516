-- Written by a program of the session (wip/tools) out of the translation, over the kit's print; with pieces of the session's own.
import Derived.Test.YthdaldicdhpnoaaPr0
import Derived.Test.YthdaldicdhpnoaaPr2
import Derived.Test.YthdaldicdhpnoaaPr3
import Derived.Test.YthdaldicdhpnoaaPr6
import Derived.Test.YthdaldicdhpnoaaPr7
import Derived.Test.YthdaldicdhpnoaaPr8
namespace Go.Proofs.Ythdaldicdhpnoaa.Pr
open Go.RowKit Go.Proofs.YthdaldicdhpnoaaW.PrintWords Go.Proofs.YthdaldicdhpnoaaW.PrintLast Go.Proofs.YthdaldicdhpnoaaW.PrintMore
attribute [local go_sem] max2_int min2_int max_two min_two max_three min_three max_four min_four   -- for this text's walks alone
set_option linter.unusedVariables false
set_option linter.unusedSimpArgs false
open Go.Proofs.Ythdaldicdhpnoaa.Sp
attribute [local go_sem high] eqA31
/-! ### weighbridgelaw04_Ip4Parses: function 9 -/
mutual
def weighbridgelaw04_Ip4Parses.j0 : Nat → ByteArray → Int → Int → ByteArray → Bool → ByteArray → Bool → Option (Bool)
  | 0, _, _, _, _, _, _, _ => none
  | k + 1, x0, x4, x5, x6, x15, x16, x45 => if x45 = true then (if x16.size ≤ 281474976710656 then ((some (numsOf x16 : List Int)).bind fun y515 => (if x4 < 0 then (if (y515.length : Int) = 0 then (none) else (if 0 ≤ (Int.tmod (wrap64 (-(wrap64 (x4 + 1)))) (y515.length : Int)) then (if (Int.tmod (wrap64 (-(wrap64 (x4 + 1)))) (y515.length : Int)) < (y515.length : Int) then ((some (y515.set ((Int.tmod (wrap64 (-(wrap64 (x4 + 1)))) (y515.length : Int)) : Int).toNat (Go.bits .xor .u8 (rd y515 (Int.tmod (wrap64 (-(wrap64 (x4 + 1)))) (y515.length : Int))) x5) : List Int)).bind fun y519 => (if (strOfNums y519).size + x6.size ≤ 9223372036854775807 then (weighbridgelaw04_Ip4Parses.j1 k ((strOfNums y519) ++ x6) x15) else (none))) else (none)) else (none))) else (if (y515.length : Int) = 0 then (none) else (if 0 ≤ (Int.tmod x4 (y515.length : Int)) then (if (Int.tmod x4 (y515.length : Int)) < (y515.length : Int) then ((some (y515.set ((Int.tmod x4 (y515.length : Int)) : Int).toNat (Go.bits .xor .u8 (rd y515 (Int.tmod x4 (y515.length : Int))) x5) : List Int)).bind fun y521 => (if (strOfNums y521).size + x6.size ≤ 9223372036854775807 then (weighbridgelaw04_Ip4Parses.j1 k ((strOfNums y521) ++ x6) x15) else (none))) else (none)) else (none))))) else (none)) else (weighbridgelaw04_Ip4Parses.j1 k x0 x15)
def weighbridgelaw04_Ip4Parses.j1 : Nat → ByteArray → Bool → Option (Bool)
  | 0, _, _ => none
  | k + 1, x0, x15 => (ip4_Parse.f x0).bind fun bt522 => ((weighbridgeref04_Parse.f x0).bind fun bt534 => ((ip4_Size.f x0).bind fun bt546 => ((weighbridgeref04_Sizes.f x0).bind fun bt549 => (if x15 = true then ((weighbridgelaw04_ref.f bt522.1 bt522.2.1 bt522.2.2.1 bt522.2.2.2.1 bt522.2.2.2.2.1 bt522.2.2.2.2.2.1 bt522.2.2.2.2.2.2.1 bt522.2.2.2.2.2.2.2.1 bt522.2.2.2.2.2.2.2.2.1).bind fun bt552 => (if (bt552.1 == bt534.1 && (bt552.2.1 == bt534.2.1 && (bt552.2.2.1 == bt534.2.2.1 && (bt552.2.2.2.1 == bt534.2.2.2.1 && (bt552.2.2.2.2.1 == bt534.2.2.2.2.1 && (bt552.2.2.2.2.2.1 == bt534.2.2.2.2.2.1 && (bt552.2.2.2.2.2.2.1 == bt534.2.2.2.2.2.2.1 && (bt552.2.2.2.2.2.2.2.1 == bt534.2.2.2.2.2.2.2.1 && (bt552.2.2.2.2.2.2.2.2.toList == bt534.2.2.2.2.2.2.2.2.1.toList))))))))) = true then (if bt522.2.2.2.2.2.2.2.2.2.1.toList = bt534.2.2.2.2.2.2.2.2.2.1.toList then (if bt522.2.2.2.2.2.2.2.2.2.2 = bt534.2.2.2.2.2.2.2.2.2.2 then (if bt546.1 = bt549.1 then (if bt546.2.1 = bt549.2.1 then (some (bt546.2.2 == (bt549.2.2 == 0))) else (some false)) else (some false)) else (some false)) else (some false)) else (some false))) else (some false)))))
end
def weighbridgelaw04_Ip4Parses.f (k : Nat) (a0 : ByteArray) (a1_0 : Int) (a1_1 : Int) (a1_2 : Int) (a1_3 : Int) (a1_4 : Int) (a1_5 : Int) (a1_6 : Int) (a1_7 : Int) (a1_8 : ByteArray) (a2 : ByteArray) (a3 : Bool) (a4 : Int) (a5 : Int) (a6 : ByteArray) : Option (Bool) := (weighbridgelaw04_examples.f).bind fun t503 => (if t503 = true then ((weighbridgelaw04_ref.f a1_0 a1_1 a1_2 a1_3 a1_4 a1_5 a1_6 a1_7 a1_8).bind fun bt504 => ((weighbridgeref04_Build.f bt504.1 bt504.2.1 bt504.2.2.1 bt504.2.2.2.1 bt504.2.2.2.2.1 bt504.2.2.2.2.2.1 bt504.2.2.2.2.2.2.1 bt504.2.2.2.2.2.2.2.1 bt504.2.2.2.2.2.2.2.2 a2).bind fun bt513 => (if a3 = true then (weighbridgelaw04_Ip4Parses.j0 k a0 a4 a5 a6 t503 bt513.1 (bt513.2 == 0)) else (weighbridgelaw04_Ip4Parses.j0 k a0 a4 a5 a6 t503 bt513.1 false)))) else (some false))
theorem weighbridgelaw04_Ip4Parses.mono_l : ∀ k, (∀ y0 y1 y2 y3 y4 y5 y6, LeO (weighbridgelaw04_Ip4Parses.j0 k y0 y1 y2 y3 y4 y5 y6) (weighbridgelaw04_Ip4Parses.j0 (k + 1) y0 y1 y2 y3 y4 y5 y6)) ∧ (∀ y0 y1, LeO (weighbridgelaw04_Ip4Parses.j1 k y0 y1) (weighbridgelaw04_Ip4Parses.j1 (k + 1) y0 y1))
  | 0 => ⟨fun _ _ _ _ _ _ _ r h => by simp [weighbridgelaw04_Ip4Parses.j0] at h, fun _ _ r h => by simp [weighbridgelaw04_Ip4Parses.j1] at h⟩
  | k + 1 => by
    obtain ⟨ih0, ih1⟩ := weighbridgelaw04_Ip4Parses.mono_l k
    refine ⟨?_, ?_⟩
    · intro y0 y1 y2 y3 y4 y5 y6
      unfold weighbridgelaw04_Ip4Parses.j0
      repeat' first
      | (with_reducible exact ih0 _ _ _ _ _ _ _)
      | (with_reducible exact ih1 _ _)
      | (with_reducible exact LeO.refl _)
      | (with_reducible exact LeO.none _)
      | (with_reducible refine LeO.ite ?_ ?_)
      | (with_reducible refine LeO.bind ?_ (fun _ => ?_))
      | exact ih0 _ _ _ _ _ _ _
      | exact ih1 _ _
      | exact LeO.none _
      | refine LeO.ite ?_ ?_
      | refine LeO.bind ?_ (fun _ => ?_)
    · intro y0 y1
      unfold weighbridgelaw04_Ip4Parses.j1
      repeat' first
      | (with_reducible exact ih0 _ _ _ _ _ _ _)
      | (with_reducible exact ih1 _ _)
      | (with_reducible exact LeO.refl _)
      | (with_reducible exact LeO.none _)
      | (with_reducible refine LeO.ite ?_ ?_)
      | (with_reducible refine LeO.bind ?_ (fun _ => ?_))
      | exact ih0 _ _ _ _ _ _ _
      | exact ih1 _ _
      | exact LeO.none _
      | refine LeO.ite ?_ ?_
      | refine LeO.bind ?_ (fun _ => ?_)
theorem weighbridgelaw04_Ip4Parses.mono : ∀ a0 a1 a2 a3 a4 a5 a6 a7 a8 a9 a10 a11 a12 a13 a14 k, LeO (weighbridgelaw04_Ip4Parses.f k a0 a1 a2 a3 a4 a5 a6 a7 a8 a9 a10 a11 a12 a13 a14) (weighbridgelaw04_Ip4Parses.f (k + 1) a0 a1 a2 a3 a4 a5 a6 a7 a8 a9 a10 a11 a12 a13 a14) := by
  intro a0 a1 a2 a3 a4 a5 a6 a7 a8 a9 a10 a11 a12 a13 a14 k
  obtain ⟨ih0, ih1⟩ := weighbridgelaw04_Ip4Parses.mono_l k
  unfold weighbridgelaw04_Ip4Parses.f
  repeat' first
      | (with_reducible exact ih0 _ _ _ _ _ _ _)
      | (with_reducible exact ih1 _ _)
      | (with_reducible exact LeO.refl _)
      | (with_reducible exact LeO.none _)
      | (with_reducible refine LeO.ite ?_ ?_)
      | (with_reducible refine LeO.bind ?_ (fun _ => ?_))
      | exact ih0 _ _ _ _ _ _ _
      | exact ih1 _ _
      | exact LeO.none _
      | refine LeO.ite ?_ ?_
      | refine LeO.bind ?_ (fun _ => ?_)
def weighbridgelaw04_Ip4Parses.T9 : Bool × List (List Nat × List Nat) := (true, [([], []), ([], []), ([], []), ([2], [2]), ([1, 3], [1, 3]), ([], []), ([], []), ([], []), ([7], [7]), ([6, 8], [6, 8]), ([5, 9], [5, 9]), ([10], [10]), ([], []), ([11, 12], [11, 12]), ([0, 4, 0, 1, 2, 3, 4, 5, 6, 7, 8, 9, 10, 11, 12, 13], [0, 4]), ([14, 13, 0, 1, 2, 3, 4, 5, 6, 7, 8, 9, 10, 11, 12, 13], [13, 14])])
def weighbridgelaw04_Ip4Parses.B9 : List Nat := [0, 0, 0, 4, 14, 0, 0, 0, 128, 448, 992, 2016, 0, 8160, 16383, 32767]
theorem weighbridgelaw04_Ip4Parses.tab9 : rtab .any (opsOf Try.f9 9) = weighbridgelaw04_Ip4Parses.T9 := by kernel_rfl
theorem weighbridgelaw04_Ip4Parses.bits9 : waitsOk weighbridgelaw04_Ip4Parses.T9.2 weighbridgelaw04_Ip4Parses.B9 = true := by kernel_rfl
def weighbridgelaw04_Ip4Parses.T15 : Bool × List (List Nat × List Nat) := (true, [([], []), ([0], [0]), ([1], [1]), ([2, 1, 1], [1, 2]), ([1], [1]), ([3, 4, 1], [1, 3, 4]), ([1, 5], [1, 5]), ([6, 3], [6]), ([7], [7]), ([7], [7]), ([8, 9, 7], [7, 8, 9]), ([7, 10], [7, 10]), ([11, 7], [11]), ([12], [12]), ([12], [12]), ([13, 14, 12], [12, 13, 14]), ([12, 15], [12, 15]), ([16, 12], [16]), ([17], [17]), ([17], [17]), ([18, 19, 17], [17, 18, 19]), ([17, 20], [17, 20]), ([21, 17], [21]), ([22], [22]), ([22], [22]), ([23, 24, 22], [22, 23, 24]), ([22, 25], [22, 25]), ([26, 22], [26]), ([27], [27]), ([27], [27]), ([29, 27], [27, 29]), ([28, 30, 27], [27, 28, 30]), ([27, 31], [27, 31]), ([32, 27, 0, 1, 2, 3, 4, 5, 6, 7, 8, 9, 10, 11, 12, 13, 14, 15, 16, 17, 18, 19, 20, 21, 22, 23, 24, 25, 26, 27, 28, 29, 30, 31, 32], [32])])
def weighbridgelaw04_Ip4Parses.B15 : List Nat := [0, 1, 3, 7, 3, 31, 63, 127, 255, 255, 1023, 2047, 4095, 8191, 8191, 32767, 65535, 131071, 262143, 262143, 1048575, 2097151, 4194303, 8388607, 8388607, 33554431, 67108863, 134217727, 268435455, 268435455, 805306367, 2147483647, 4294967295, 8589934591]
theorem weighbridgelaw04_Ip4Parses.tab15 : rtab .any (opsOf Try.f9 15) = weighbridgelaw04_Ip4Parses.T15 := by kernel_rfl
theorem weighbridgelaw04_Ip4Parses.bits15 : waitsOk weighbridgelaw04_Ip4Parses.T15.2 weighbridgelaw04_Ip4Parses.B15 = true := by kernel_rfl
set_option maxHeartbeats 8000000 in
set_option maxRecDepth 100000 in
theorem weighbridgelaw04_Ip4Parses.calls (k : Nat) (a0 : ByteArray) (a1_0 : Int) (a1_1 : Int) (a1_2 : Int) (a1_3 : Int) (a1_4 : Int) (a1_5 : Int) (a1_6 : Int) (a1_7 : Int) (a1_8 : ByteArray) (a2 : ByteArray) (a3 : Bool) (a4 : Int) (a5 : Int) (a6 : ByteArray) (r : Bool) (w : World) (h : weighbridgelaw04_Ip4Parses.f k a0 a1_0 a1_1 a1_2 a1_3 a1_4 a1_5 a1_6 a1_7 a1_8 a2 a3 a4 a5 a6 = some r) (hr_ : r = true) :
    Calls Try.prog 9 #[.string a0, .agg #[.int .i64 a1_0, .int .i64 a1_1, .int .i64 a1_2, .int .i64 a1_3, .int .i64 a1_4, .int .i64 a1_5, .int .u32 a1_6, .int .u32 a1_7, .string a1_8], .string a2, .bool a3, .int .i64 a4, .int .u8 a5, .string a6] w fun e w' => e = .returned (.bool r) ∧ Below w.heap.size w w' := by
  have hu24 := Try.underlying24
  have hu31 := Try.underlying31
  have HB := Aside0.mk (Below.refl w.heap.size w)
  have H : ((weighbridgelaw04_examples.f).bind fun t503 => (if t503 = true then ((weighbridgelaw04_ref.f a1_0 a1_1 a1_2 a1_3 a1_4 a1_5 a1_6 a1_7 a1_8).bind fun bt504 => ((weighbridgeref04_Build.f bt504.1 bt504.2.1 bt504.2.2.1 bt504.2.2.2.1 bt504.2.2.2.2.1 bt504.2.2.2.2.2.1 bt504.2.2.2.2.2.2.1 bt504.2.2.2.2.2.2.2.1 bt504.2.2.2.2.2.2.2.2 a2).bind fun bt513 => (if a3 = true then (weighbridgelaw04_Ip4Parses.j0 k a0 a4 a5 a6 t503 bt513.1 (bt513.2 == 0)) else (weighbridgelaw04_Ip4Parses.j0 k a0 a4 a5 a6 t503 bt513.1 false)))) else (some false))) = some r := h
  clear h
  replace H := Option.bind_eq_some_iff.mp H
  obtain ⟨t503, A80, H⟩ := H
  replace H : (if t503 = true then ((weighbridgelaw04_ref.f a1_0 a1_1 a1_2 a1_3 a1_4 a1_5 a1_6 a1_7 a1_8).bind fun bt504 => ((weighbridgeref04_Build.f bt504.1 bt504.2.1 bt504.2.2.1 bt504.2.2.2.1 bt504.2.2.2.2.1 bt504.2.2.2.2.2.1 bt504.2.2.2.2.2.2.1 bt504.2.2.2.2.2.2.2.1 bt504.2.2.2.2.2.2.2.2 a2).bind fun bt513 => (if a3 = true then (weighbridgelaw04_Ip4Parses.j0 k a0 a4 a5 a6 t503 bt513.1 (bt513.2 == 0)) else (weighbridgelaw04_Ip4Parses.j0 k a0 a4 a5 a6 t503 bt513.1 false)))) else (some false)) = some r := H
  have A8 := Aside0.mk A80
  clear A80
  by_cases c9 : t503 = true
  · subst c9
    have H1 : ((weighbridgelaw04_ref.f a1_0 a1_1 a1_2 a1_3 a1_4 a1_5 a1_6 a1_7 a1_8).bind fun bt504 => ((weighbridgeref04_Build.f bt504.1 bt504.2.1 bt504.2.2.1 bt504.2.2.2.1 bt504.2.2.2.2.1 bt504.2.2.2.2.2.1 bt504.2.2.2.2.2.2.1 bt504.2.2.2.2.2.2.2.1 bt504.2.2.2.2.2.2.2.2 a2).bind fun bt513 => (if a3 = true then (weighbridgelaw04_Ip4Parses.j0 k a0 a4 a5 a6 true bt513.1 (bt513.2 == 0)) else (weighbridgelaw04_Ip4Parses.j0 k a0 a4 a5 a6 true bt513.1 false)))) = some r := by first | (rw [if_pos rfl] at H; exact H) | (rw [if_pos trivial] at H; exact H)
    clear H
    have H := H1
    clear H1
    replace H := Option.bind_eq_some_iff.mp H
    obtain ⟨⟨t504, t505, t506, t507, t508, t509, t510, t511, t512⟩, A100, H⟩ := H
    replace H : ((weighbridgeref04_Build.f t504 t505 t506 t507 t508 t509 t510 t511 t512 a2).bind fun bt513 => (if a3 = true then (weighbridgelaw04_Ip4Parses.j0 k a0 a4 a5 a6 true bt513.1 (bt513.2 == 0)) else (weighbridgelaw04_Ip4Parses.j0 k a0 a4 a5 a6 true bt513.1 false))) = some r := H
    have A10 := Aside0.mk A100
    clear A100
    replace H := Option.bind_eq_some_iff.mp H
    obtain ⟨⟨t513, t514⟩, A110, H⟩ := H
    replace H : (if a3 = true then (weighbridgelaw04_Ip4Parses.j0 k a0 a4 a5 a6 true t513 (t514 == 0)) else (weighbridgelaw04_Ip4Parses.j0 k a0 a4 a5 a6 true t513 false)) = some r := H
    have A11 := Aside0.mk A110
    clear A110
    have HC12 := Aside0.mk H
    clear H
    go_enter Try.func9, Try.ntmps9
    go_upto_region 5 with (first | ((with_reducible refine gate_dst (N := 8) rfl ?_); refine box_event ?hg (N := 8) ?hd (cs := #[.int .i64 a1_0, .int .i64 a1_1, .int .i64 a1_2, .int .i64 a1_3, .int .i64 a1_4, .int .i64 a1_5, .int .u32 a1_6, .int .u32 a1_7, .string a1_8]) (t := 24) ?hr ?_; (case hd => rfl); (case hg => rfl); (case hr => first | (go_simp; done) | (go_simp; rfl)); intro gb502 hg w13 hbox hb; have n0_ := Aside0.mk (below_step (by repeat (first | (with_reducible first | exact HB.out | apply below_alloc | apply pw_below_drewN | apply below_drew1) | exact HB.out)) hb); have n1_ := Aside0.mk (hbox); have n2_ := Aside0.mk ((by rw [hg]; exact (below_size (by repeat (first | (with_reducible first | exact HB.out | apply below_alloc | apply pw_below_drewN | apply below_drew1) | exact HB.out))) : w.heap.size ≤ gb502)); have n3_ := Aside0.mk ((by rw [hg]; exact (below_size (by repeat (first | (with_reducible first | exact HB.out | apply below_alloc | apply pw_below_drewN | apply below_drew1) | exact HB.out))) : w.heap.size ≤ gb502)); clear HB; have HB := n0_; have BK502 := n1_; have GW502 := n2_; have GE502 := n3_; clear n0_ n1_ n2_ n3_; clear hb hbox hg) | ((with_reducible refine gate_callee (f := 10) rfl ?_); refine goesL_ (some 31) rfl rfl Try.func10 (by kernel_rfl) rfl #[] rfl (by (try simp only [List.map_toArray, List.map_cons, List.map_nil]); first | done | rfl | (simp only [List.length_drop, List.length_take]; rfl)) ?_; (with_reducible refine (weighbridgelaw04_examples.calls  true _ A8.out).mono ?_); rintro e w14 ⟨rfl, hb⟩; refine ⟨_, rfl, ?_⟩; have n0_ := Aside0.mk (blk_below (g := gb502) (o := .cells #[.int .i64 a1_0, .int .i64 a1_1, .int .i64 a1_2, .int .i64 a1_3, .int .i64 a1_4, .int .i64 a1_5, .int .u32 a1_6, .int .u32 a1_7, .string a1_8] 24 (0, 0)) (by (with_reducible repeat (first | refine blk_drewN ?_ _ | refine blk_drew ?_ | refine blk_alloc ?_ _)); exact BK502.out) hb); have n1_ := Aside0.mk (below_step (by repeat (first | (with_reducible first | exact HB.out | apply below_alloc | apply pw_below_drewN | apply below_drew1 | refine below_set ?_ GE502.out) | exact HB.out)) hb); clear BK502; clear HB; have BK502 := n0_; have HB := n1_; clear n0_ n1_; (try clear hb); (try clear hb2); (try clear hk); (try clear hi); have hcz15_0 : w14.cell? ⟨gb502, 0, none⟩ = some (.int .i64 a1_0) := (blk_cell BK502.out 0).trans rfl; have hcz15_1 : w14.cell? ⟨gb502, 1, none⟩ = some (.int .i64 a1_1) := (blk_cell BK502.out 1).trans rfl; have hcz15_2 : w14.cell? ⟨gb502, 2, none⟩ = some (.int .i64 a1_2) := (blk_cell BK502.out 2).trans rfl; have hcz15_3 : w14.cell? ⟨gb502, 3, none⟩ = some (.int .i64 a1_3) := (blk_cell BK502.out 3).trans rfl; have hcz15_4 : w14.cell? ⟨gb502, 4, none⟩ = some (.int .i64 a1_4) := (blk_cell BK502.out 4).trans rfl; have hcz15_5 : w14.cell? ⟨gb502, 5, none⟩ = some (.int .i64 a1_5) := (blk_cell BK502.out 5).trans rfl; have hcz15_6 : w14.cell? ⟨gb502, 6, none⟩ = some (.int .u32 a1_6) := (blk_cell BK502.out 6).trans rfl; have hcz15_7 : w14.cell? ⟨gb502, 7, none⟩ = some (.int .u32 a1_7) := (blk_cell BK502.out 7).trans rfl; have hcz15_8 : w14.cell? ⟨gb502, 8, none⟩ = some (.string a1_8) := (blk_cell BK502.out 8).trans rfl; have hfz15_0 := blk_frozen BK502.out 0; have hfz15_1 := blk_frozen BK502.out 1; have hfz15_2 := blk_frozen BK502.out 2; have hfz15_3 := blk_frozen BK502.out 3; have hfz15_4 := blk_frozen BK502.out 4; have hfz15_5 := blk_frozen BK502.out 5; have hfz15_6 := blk_frozen BK502.out 6; have hfz15_7 := blk_frozen BK502.out 7; have hfz15_8 := blk_frozen BK502.out 8) | ((with_reducible refine gate_callee (f := 13) rfl ?_); refine goesL_ (some 36) rfl rfl Try.func13 (by kernel_rfl) rfl #[.agg #[.int .i64 a1_0, .int .i64 a1_1, .int .i64 a1_2, .int .i64 a1_3, .int .i64 a1_4, .int .i64 a1_5, .int .u32 a1_6, .int .u32 a1_7, .string a1_8]] rfl (by (try simp only [List.map_toArray, List.map_cons, List.map_nil]); first | done | rfl | (simp only [List.length_drop, List.length_take]; rfl)) ?_; (with_reducible refine (weighbridgelaw04_ref.calls a1_0 a1_1 a1_2 a1_3 a1_4 a1_5 a1_6 a1_7 a1_8 t504 t505 t506 t507 t508 t509 t510 t511 t512 _ A10.out).mono ?_); rintro e w16 ⟨rfl, hb⟩; refine ⟨_, rfl, ?_⟩; have n0_ := Aside0.mk (blk_below (g := gb502) (o := .cells #[.int .i64 a1_0, .int .i64 a1_1, .int .i64 a1_2, .int .i64 a1_3, .int .i64 a1_4, .int .i64 a1_5, .int .u32 a1_6, .int .u32 a1_7, .string a1_8] 24 (0, 0)) (by (with_reducible repeat (first | refine blk_drewN ?_ _ | refine blk_drew ?_ | refine blk_alloc ?_ _)); exact BK502.out) hb); have n1_ := Aside0.mk (below_step (by repeat (first | (with_reducible first | exact HB.out | apply below_alloc | apply pw_below_drewN | apply below_drew1 | refine below_set ?_ GE502.out) | exact HB.out)) hb); clear BK502; clear HB; have BK502 := n0_; have HB := n1_; clear n0_ n1_; (try clear hb); (try clear hb2); (try clear hk); (try clear hi)) | ((with_reducible refine gate_callee (f := 12) rfl ?_); refine goesL_ (some 38) rfl rfl Try.func12 (by kernel_rfl) rfl #[.agg #[.int .i64 t504, .int .i64 t505, .int .i64 t506, .int .i64 t507, .int .i64 t508, .int .i64 t509, .int .u32 t510, .int .u32 t511, .string t512], .string a2] rfl (by (try simp only [List.map_toArray, List.map_cons, List.map_nil]); first | done | rfl | (simp only [List.length_drop, List.length_take]; rfl)) ?_; (with_reducible refine (weighbridgeref04_Build.calls t504 t505 t506 t507 t508 t509 t510 t511 t512 a2 t513 t514 _ A11.out).mono ?_); rintro e w17 ⟨rfl, hb⟩; refine ⟨_, rfl, ?_⟩; have n0_ := Aside0.mk (blk_below (g := gb502) (o := .cells #[.int .i64 a1_0, .int .i64 a1_1, .int .i64 a1_2, .int .i64 a1_3, .int .i64 a1_4, .int .i64 a1_5, .int .u32 a1_6, .int .u32 a1_7, .string a1_8] 24 (0, 0)) (by (with_reducible repeat (first | refine blk_drewN ?_ _ | refine blk_drew ?_ | refine blk_alloc ?_ _)); exact BK502.out) hb); have n1_ := Aside0.mk (below_step (by repeat (first | (with_reducible first | exact HB.out | apply below_alloc | apply pw_below_drewN | apply below_drew1 | refine below_set ?_ GE502.out) | exact HB.out)) hb); clear BK502; clear HB; have BK502 := n0_; have HB := n1_; clear n0_ n1_; (try clear hb); (try clear hb2); (try clear hk); (try clear hi)))
    (try simp only [Act.put, List.setIfInBounds_toArray, List.set_cons_zero, List.set_cons_succ])
    go_cut [45] (fun v45 wc => ∃ (kq : Nat) (x45_11 : Bool), v45 = .bool x45_11 ∧ Aside0 (weighbridgelaw04_Ip4Parses.j0 kq a0 a4 a5 a6 true t513 x45_11 = some r) ∧ Aside0 (kq ≤ k) ∧ Aside0 (wc.heap[gb502]? = some (.cells #[.int .i64 a1_0, .int .i64 a1_1, .int .i64 a1_2, .int .i64 a1_3, .int .i64 a1_4, .int .i64 a1_5, .int .u32 a1_6, .int .u32 a1_7, .string a1_8] 24 (0, 0))) ∧ Aside0 (Below w.heap.size w wc))
    case first =>
      have H := HC12.out
      clear HC12
      by_cases c18 : a3 = true
      · subst c18
        have H1 : (weighbridgelaw04_Ip4Parses.j0 k a0 a4 a5 a6 true t513 (t514 == 0)) = some r := by first | (rw [if_pos rfl] at H; exact H) | (rw [if_pos trivial] at H; exact H)
        clear H
        have H := H1
        clear H1
        have H' := Aside0.mk H
        clear H
        go_wp2
        go_meet
        case rel => exact ⟨_, ((t514 == 0)), (by first | rfl | (simp; done) | (congr 2; simp only [ByteArray.size_extract, ByteArray.size_append]; (try unfold wrap64); omega) | (simp only [ByteArray.size_extract, ByteArray.size_append, Nat.sub_zero]; done) | (congr 1; simp only [ByteArray.size_extract, ByteArray.size_append, Nat.sub_zero]; omega) | (simp [*]; done)), H', ⟨by first | omega | exact Nat.le_refl _⟩, ⟨by (with_reducible repeat (first | refine blk_drewN ?_ _ | refine blk_drew ?_ | refine blk_alloc ?_ _)); exact BK502.out⟩, ⟨by repeat (first | (with_reducible first | exact HB.out | apply below_alloc | apply pw_below_drewN | apply below_drew1 | refine below_set ?_ GE502.out) | exact HB.out)⟩⟩
      · replace c18 := Bool.eq_false_iff.mpr c18
        subst c18
        have H1 : (weighbridgelaw04_Ip4Parses.j0 k a0 a4 a5 a6 true t513 false) = some r := by rw [if_neg (show ¬ (false = true) by decide)] at H; exact H
        clear H
        have H := H1
        clear H1
        have H' := Aside0.mk H
        clear H
        go_wp2
        go_meet
        case rel => exact ⟨_, (false), (by first | rfl | (simp; done) | (congr 2; simp only [ByteArray.size_extract, ByteArray.size_append]; (try unfold wrap64); omega) | (simp only [ByteArray.size_extract, ByteArray.size_append, Nat.sub_zero]; done) | (congr 1; simp only [ByteArray.size_extract, ByteArray.size_append, Nat.sub_zero]; omega) | (simp [*]; done)), H', ⟨by first | omega | exact Nat.le_refl _⟩, ⟨by (with_reducible repeat (first | refine blk_drewN ?_ _ | refine blk_drew ?_ | refine blk_alloc ?_ _)); exact BK502.out⟩, ⟨by repeat (first | (with_reducible first | exact HB.out | apply below_alloc | apply pw_below_drewN | apply below_drew1 | refine below_set ?_ GE502.out) | exact HB.out)⟩⟩
    case rest =>
      clear HC12
      try clear c1
      try clear p2
      try clear p4
      try clear c9
      try clear c10
      try clear c12
      try clear c13
      try clear c18
      try clear hcz15_0
      try clear hcz15_1
      try clear hcz15_2
      try clear hcz15_3
      try clear hcz15_4
      try clear hcz15_5
      try clear hcz15_6
      try clear hcz15_7
      try clear hcz15_8
      try clear hfz15_0
      try clear hfz15_1
      try clear hfz15_2
      try clear hfz15_3
      try clear hfz15_4
      try clear hfz15_5
      try clear hfz15_6
      try clear hfz15_7
      try clear hfz15_8
      obtain ⟨kq, x45_11, rfl, HA, HJ11, BK502, HB⟩ := hcut
      cases kq with
      | zero => exact absurd HA.out (by simp [weighbridgelaw04_Ip4Parses.j0])
      | succ kj11 =>
        have H := HA.out
        clear HA
        simp only [weighbridgelaw04_Ip4Parses.j0] at H
        have HC19 := Aside0.mk H
        clear H
        go_upto_if 45 with (fail)
        go_cut [0] (fun v0 wc => ∃ (kq : Nat) (x0_18 : ByteArray), v0 = .string x0_18 ∧ Aside0 (weighbridgelaw04_Ip4Parses.j1 kq x0_18 true = some r) ∧ Aside0 (kq ≤ kj11) ∧ Aside0 (wc.heap[gb502]? = some (.cells #[.int .i64 a1_0, .int .i64 a1_1, .int .i64 a1_2, .int .i64 a1_3, .int .i64 a1_4, .int .i64 a1_5, .int .u32 a1_6, .int .u32 a1_7, .string a1_8] 24 (0, 0))) ∧ Aside0 (Below w.heap.size w wc))
        case first =>
          have H := HC19.out
          clear HC19
          by_cases c20 : x45_11 = true
          · subst c20
            have H1 : (if t513.size ≤ 281474976710656 then ((some (numsOf t513 : List Int)).bind fun y515 => (if a4 < 0 then (if (y515.length : Int) = 0 then (none) else (if 0 ≤ (Int.tmod (wrap64 (-(wrap64 (a4 + 1)))) (y515.length : Int)) then (if (Int.tmod (wrap64 (-(wrap64 (a4 + 1)))) (y515.length : Int)) < (y515.length : Int) then ((some (y515.set ((Int.tmod (wrap64 (-(wrap64 (a4 + 1)))) (y515.length : Int)) : Int).toNat (Go.bits .xor .u8 (rd y515 (Int.tmod (wrap64 (-(wrap64 (a4 + 1)))) (y515.length : Int))) a5) : List Int)).bind fun y519 => (if (strOfNums y519).size + a6.size ≤ 9223372036854775807 then (weighbridgelaw04_Ip4Parses.j1 kj11 ((strOfNums y519) ++ a6) true) else (none))) else (none)) else (none))) else (if (y515.length : Int) = 0 then (none) else (if 0 ≤ (Int.tmod a4 (y515.length : Int)) then (if (Int.tmod a4 (y515.length : Int)) < (y515.length : Int) then ((some (y515.set ((Int.tmod a4 (y515.length : Int)) : Int).toNat (Go.bits .xor .u8 (rd y515 (Int.tmod a4 (y515.length : Int))) a5) : List Int)).bind fun y521 => (if (strOfNums y521).size + a6.size ≤ 9223372036854775807 then (weighbridgelaw04_Ip4Parses.j1 kj11 ((strOfNums y521) ++ a6) true) else (none))) else (none)) else (none))))) else (none)) = some r := by first | (rw [if_pos rfl] at H; exact H) | (rw [if_pos trivial] at H; exact H)
            clear H
            have H := H1
            clear H1
            by_cases c21 : t513.size ≤ 281474976710656
            · rw [if_pos c21] at H
              have c21b0 := eq_true c21
              have c21b1 : decide (t513.size ≤ 281474976710656) = true := decide_eq_true c21
              clear c21
              obtain ⟨y515, hy515⟩ : ∃ y_ : List Int, y_ = (numsOf t513) := ⟨_, rfl⟩
              replace H : (if a4 < 0 then (if (y515.length : Int) = 0 then (none) else (if 0 ≤ (Int.tmod (wrap64 (-(wrap64 (a4 + 1)))) (y515.length : Int)) then (if (Int.tmod (wrap64 (-(wrap64 (a4 + 1)))) (y515.length : Int)) < (y515.length : Int) then ((some (y515.set ((Int.tmod (wrap64 (-(wrap64 (a4 + 1)))) (y515.length : Int)) : Int).toNat (Go.bits .xor .u8 (rd y515 (Int.tmod (wrap64 (-(wrap64 (a4 + 1)))) (y515.length : Int))) a5) : List Int)).bind fun y519 => (if (strOfNums y519).size + a6.size ≤ 9223372036854775807 then (weighbridgelaw04_Ip4Parses.j1 kj11 ((strOfNums y519) ++ a6) true) else (none))) else (none)) else (none))) else (if (y515.length : Int) = 0 then (none) else (if 0 ≤ (Int.tmod a4 (y515.length : Int)) then (if (Int.tmod a4 (y515.length : Int)) < (y515.length : Int) then ((some (y515.set ((Int.tmod a4 (y515.length : Int)) : Int).toNat (Go.bits .xor .u8 (rd y515 (Int.tmod a4 (y515.length : Int))) a5) : List Int)).bind fun y521 => (if (strOfNums y521).size + a6.size ≤ 9223372036854775807 then (weighbridgelaw04_Ip4Parses.j1 kj11 ((strOfNums y521) ++ a6) true) else (none))) else (none)) else (none)))) = some r := by first | (rw [hy515]; with_reducible exact H) | (have H2_ := (Option.bind_some _ _).symm.trans H; rw [hy515]; with_reducible exact H2_) | (have H2_ := (Option.bind_some _ _).symm.trans H; with_reducible exact H2_) | with_reducible exact H | (rw [hy515]; exact H) | exact H
              have Ny515 := Aside0.mk hy515
              clear hy515
              by_cases c22 : a4 < 0
              · rw [if_pos c22] at H
                have c22b0 : decide (a4 < 0) = true := decide_eq_true c22
                clear c22
                (first | rw [c22b0] | (simp only [i64_w, i32_w]; rw [c22b0]) | skip)
                by_cases c23 : (y515.length : Int) = 0
                · rw [if_pos c23] at H
                  exact absurd H (by simp)
                · rw [if_neg c23] at H
                  have c23b0 : ((y515.length : Int) == 0) = false := beq_eq_false_iff_ne.mpr c23
                  have c23b1 : ((y515.length : Int) != 0) = true := bne_iff_ne.mpr c23
                  have c23b2 : ¬ (y515 = []) := fun h_ => c23 (by rw [h_]; rfl)
                  obtain ⟨ji24, hji24⟩ : ∃ j_ : Int, (Int.tmod (wrap64 (-(wrap64 (a4 + 1)))) (y515.length : Int)) = j_ := ⟨_, rfl⟩
                  replace H : (if 0 ≤ (ji24) then (if (ji24) < (y515.length : Int) then ((some (y515.set ((ji24) : Int).toNat (Go.bits .xor .u8 (rd y515 (ji24)) a5) : List Int)).bind fun y519 => (if (strOfNums y519).size + a6.size ≤ 9223372036854775807 then (weighbridgelaw04_Ip4Parses.j1 kj11 ((strOfNums y519) ++ a6) true) else (none))) else (none)) else (none)) = some r := by first | (rw [hji24] at H; exact H) | (simp only [hji24] at H ⊢; exact H)
                  by_cases c25 : 0 ≤ (ji24)
                  · rw [if_pos c25] at H
                    have c25b0 : decide (0 ≤ (ji24)) = true := decide_eq_true c25
                    clear c25
                    by_cases c26 : (ji24) < (y515.length : Int)
                    · rw [if_pos c26] at H
                      have c26b0 : decide ((ji24) < (y515.length : Int)) = true := decide_eq_true c26
                      clear c26
                      obtain ⟨y519, hy519⟩ : ∃ y_ : List Int, y_ = (y515.set ((ji24) : Int).toNat (Go.bits .xor .u8 (rd y515 (ji24)) a5)) := ⟨_, rfl⟩
                      replace H : (if (strOfNums y519).size + a6.size ≤ 9223372036854775807 then (weighbridgelaw04_Ip4Parses.j1 kj11 ((strOfNums y519) ++ a6) true) else (none)) = some r := by first | (rw [hy519]; with_reducible exact H) | (have H2_ := (Option.bind_some _ _).symm.trans H; rw [hy519]; with_reducible exact H2_) | (have H2_ := (Option.bind_some _ _).symm.trans H; with_reducible exact H2_) | with_reducible exact H | (rw [hy519]; exact H) | exact H
                      have Ny519 := Aside0.mk hy519
                      clear hy519
                      by_cases c28 : (strOfNums y519).size + a6.size ≤ 9223372036854775807
                      · rw [if_pos c28] at H
                        have c28b0 := eq_true c28
                        have c28b1 : decide ((strOfNums y519).size + a6.size ≤ 9223372036854775807) = true := decide_eq_true c28
                        try have c28b2 : (9223372036854775807 < (strOfNums y519).size + a6.size) = False := eq_false (Nat.not_lt.2 c28)
                        have H' := Aside0.mk H
                        clear H
                        try go_wp2_with (first | ((with_reducible refine gate_dst (N := 47) rfl ?_); refine Kb.Q_conv (Kd.int .u8) 5 rfl (N := 47) rfl 9 42 _ rfl t513 rfl Try.underlying9 Try.underlying42 Try.underlying5 (ok := fun _ => True) trivial (of_decide_eq_true (by first | (with_reducible assumption) | assumption)) ?_; intro v516 w29 ho30 hb hg_ hnew_; clear hg_ hnew_; (first | rw [← Ny515.out] at ho30 | (simp only [Int.reduceToNat] at ho30; rw [← Ny515.out] at ho30)); have n0_ := Aside0.mk (Kb.Q_lower ho30 (below_size (by repeat (first | (with_reducible first | exact HB.out | apply below_alloc | apply pw_below_drewN | apply below_drew1 | refine below_set ?_ GE502.out) | exact HB.out)))); have n1_ := Aside0.mk (blk_below (g := gb502) (o := .cells #[.int .i64 a1_0, .int .i64 a1_1, .int .i64 a1_2, .int .i64 a1_3, .int .i64 a1_4, .int .i64 a1_5, .int .u32 a1_6, .int .u32 a1_7, .string a1_8] 24 (0, 0)) (by (with_reducible repeat (first | refine blk_drewN ?_ _ | refine blk_drew ?_ | refine blk_alloc ?_ _)); exact BK502.out) hb); have n2_ := Aside0.mk (below_step (by repeat (first | (with_reducible first | exact HB.out | apply below_alloc | apply pw_below_drewN | apply below_drew1 | refine below_set ?_ GE502.out) | exact HB.out)) hb); clear BK502; clear HB; have HO517 := n0_; have BK502 := n1_; have HB := n2_; clear n0_ n1_ n2_; clear hb ho30))
                        have n0_ := Aside0.mk (Kb.Q_drew HO517.out)
                        have n1_ := Aside0.mk (blk_drew BK502.out)
                        have n2_ := Aside0.mk (below_drew1 HB.out)
                        clear HO517
                        clear BK502
                        clear HB
                        have HO517 := n0_
                        have BK502 := n1_
                        have HB := n2_
                        clear n0_ n1_ n2_
                        obtain ⟨Ao32, co32, eo32, _⟩ := Kb.Q_slice HO517.out
                        (first | subst eo32 | (injection eo32 with f1_ f2_ f3_; have f4_ := f1_.symm; have f5_ := f3_.symm; clear f1_ f2_ f3_; subst f4_; subst f5_))
                        have p518 : 0 ≤ ((ji24) : Int) := of_decide_eq_true (by first | (with_reducible assumption) | assumption)
                        have q518 : (ji24) < (y515.length : Int) := of_decide_eq_true (by first | (with_reducible assumption) | assumption)
                        obtain ⟨ad518, e518, hx518_0⟩ := Kd.at_int (Kb.Q_reads' HO517.out).2.2 (ji24) p518 q518
                        cases e518
                        replace p518 := eq_true p518
                        replace q518 := eq_true q518
                        have p27 : 0 ≤ ((ji24) : Int) := of_decide_eq_true (by first | (with_reducible assumption) | assumption)
                        have q27 : ((ji24) : Int) < ((y515.length : Int) : Int) := of_decide_eq_true (by first | (with_reducible assumption) | assumption)
                        obtain ⟨go27, co27, eo27, gb27, gl27, cl27, HG27⟩ := Kb.Q_form HO517.out (by omega)
                        (first | cases eo27 | (injection eo27 with ea_ en_ ec_; (first | subst ea_ | (injection ea_ with ea_; subst ea_)); subst ec_; clear en_))
                        have GB27 := Aside0.mk gb27
                        have GG27 := Aside0.mk HG27
                        clear gb27 gl27 HG27
                        (first | simp only [add_at, Nat.zero_add] at hx518_0 | skip)
                        obtain ⟨hx27_0, hf27_0⟩ := Kb.Q_cell 0 HO517.out ((ji24) : Int) p27 q27
                        replace p27 := eq_true p27
                        replace q27 := eq_true q27
                        have HP33 := (Kb.Q_putg HO517.out ((ji24) : Int) (of_decide_eq_true (by first | (with_reducible assumption) | assumption)) (by have h_ : ((ji24) : Int) < ((y515.length : Int) : Int) := of_decide_eq_true (by first | (with_reducible assumption) | assumption); first | exact h_ | (have e_ := (Kb.Q_reads' HO517.out).1; omega) | simpa using h_) (Go.bits .xor .u8 (rd y515 (ji24)) a5)).1
                        rw [← Ny519.out] at HP33
                        have HQ33 := Aside0.mk HP33
                        clear HP33
                        refine start_ (n := 16) (S := fun w' => w'.cell? ⟨go27, ((ji24)).toNat, none⟩ = some (.int .u8 (rd y515 (ji24)))) (ds := [15]) #[false, false, false, false, false, false, false, false, false, false, false, false, false, false, false, false] (by kernel_rfl) rfl rfl (hx518_0) (fun hHeld => ?_); refine with_tabW weighbridgelaw04_Ip4Parses.tab9 weighbridgelaw04_Ip4Parses.bits9 (fun HT_ HW_ => ?_)
                        generalize w29.drew = w31 at HO517 BK502 HB GG27 HQ33 hf27_0 hx27_0 hx518_0 hHeld ⊢
                        refine pure_ (i := 0) (N := some 53) (v := ?_) (a' := ?_) #[true, false, false, false, false, false, false, false, false, false, false, false, false, false, false, false] rfl rfl (any_of HT_.out (by kernel_rfl)) (fun _ _ _ h => h) (Or.inl ⟨by rfl, ?_⟩) ?_ ?_
                        rotate_left
                        · intro w'
                          go_simp
                          with_reducible rfl
                        rotate_left
                        · simp only [Act.put, List.setIfInBounds_toArray, List.set_cons_zero, List.set_cons_succ, i64_w, i32_w]
                          rfl
                        refine pure_ (i := 1) (N := some 54) (v := ?_) (a' := ?_) #[true, true, false, false, false, false, false, false, false, false, false, false, false, false, false, false] rfl rfl (any_of HT_.out (by kernel_rfl)) (fun _ _ _ h => h) (Or.inl ⟨by rfl, ?_⟩) ?_ ?_
                        rotate_left
                        · intro w'
                          go_simp
                          with_reducible rfl
                        rotate_left
                        · simp only [Act.put, List.setIfInBounds_toArray, List.set_cons_zero, List.set_cons_succ, i64_w, i32_w]
                          rfl
                        refine pure_ (i := 2) (N := some 55) (v := ?_) (a' := ?_) #[true, true, true, false, false, false, false, false, false, false, false, false, false, false, false, false] rfl rfl (any_of HT_.out (by kernel_rfl)) (fun _ _ _ h => h) (Or.inl ⟨by rfl, ?_⟩) ?_ ?_
                        rotate_left
                        · intro w'
                          go_simp
                          with_reducible rfl
                        rotate_left
                        · simp only [Act.put, List.setIfInBounds_toArray, List.set_cons_zero, List.set_cons_succ, i64_w, i32_w]
                          rfl
                        refine pure_ (i := 3) (N := some 56) (v := ?_) (a' := ?_) #[true, true, true, true, false, false, false, false, false, false, false, false, false, false, false, false] rfl rfl (any_of HT_.out (by kernel_rfl)) (fun _ _ _ h => h) (Or.inl ⟨by rfl, ?_⟩) ?_ ?_
                        rotate_left
                        · intro w'
                          go_simp
                          with_reducible rfl
                        rotate_left
                        · simp only [Act.put, List.setIfInBounds_toArray, List.set_cons_zero, List.set_cons_succ, i64_w, i32_w]
                          rfl
                        refine pure_ (i := 4) (N := some 57) (v := ?_) (a' := ?_) #[true, true, true, true, true, false, false, false, false, false, false, false, false, false, false, false] rfl rfl (any_of HT_.out (by kernel_rfl)) (fun _ _ _ h => h) (Or.inl ⟨by rfl, ?_⟩) ?_ ?_
                        rotate_left
                        · intro w'
                          go_simp
                          with_reducible rfl
                        rotate_left
                        · simp only [Act.put, List.setIfInBounds_toArray, List.set_cons_zero, List.set_cons_succ, i64_w, i32_w]
                          rfl
                        refine pure_ (i := 5) (N := some 58) (v := ?_) (a' := ?_) #[true, true, true, true, true, true, false, false, false, false, false, false, false, false, false, false] rfl rfl (any_of HT_.out (by kernel_rfl)) (fun _ _ _ h => h) (Or.inl ⟨by rfl, ?_⟩) ?_ ?_
                        rotate_left
                        · intro w'
                          go_simp
                          with_reducible rfl
                        rotate_left
                        · simp only [Act.put, List.setIfInBounds_toArray, List.set_cons_zero, List.set_cons_succ, i64_w, i32_w]
                          rfl
                        refine pure_ (i := 6) (N := some 59) (v := ?_) (a' := ?_) #[true, true, true, true, true, true, true, false, false, false, false, false, false, false, false, false] rfl rfl (any_of HT_.out (by kernel_rfl)) (fun _ _ _ h => h) (Or.inl ⟨by rfl, ?_⟩) ?_ ?_
                        rotate_left
                        · intro w'
                          go_simp
                          with_reducible rfl
                        rotate_left
                        · simp only [Act.put, List.setIfInBounds_toArray, List.set_cons_zero, List.set_cons_succ, i64_w, i32_w]
                          rfl
                        refine pure_ (i := 7) (N := some 60) (v := ?_) (a' := ?_) #[true, true, true, true, true, true, true, true, false, false, false, false, false, false, false, false] rfl rfl (any_of HT_.out (by kernel_rfl)) (fun _ _ _ h => h) (Or.inl ⟨by rfl, ?_⟩) ?_ ?_
                        rotate_left
                        · intro w'
                          go_simp
                          with_reducible rfl
                        rotate_left
                        · simp only [Act.put, List.setIfInBounds_toArray, List.set_cons_zero, List.set_cons_succ, i64_w, i32_w]
                          rfl
                        refine pure_ (i := 8) (N := some 61) (v := ?_) (a' := ?_) #[true, true, true, true, true, true, true, true, true, false, false, false, false, false, false, false] rfl rfl (any_of HT_.out (by kernel_rfl)) (fun _ _ _ h => h) (Or.inl ⟨by rfl, ?_⟩) ?_ ?_
                        rotate_left
                        · intro w'
                          go_simp
                          with_reducible rfl
                        rotate_left
                        · simp only [Act.put, List.setIfInBounds_toArray, List.set_cons_zero, List.set_cons_succ, i64_w, i32_w]
                          rfl
                        refine pure_ (i := 9) (N := some 62) (v := ?_) (a' := ?_) #[true, true, true, true, true, true, true, true, true, true, false, false, false, false, false, false] rfl rfl (any_of HT_.out (by kernel_rfl)) (fun _ _ _ h => h) (Or.inl ⟨by rfl, ?_⟩) ?_ ?_
                        rotate_left
                        · intro w'
                          go_simp
                          with_reducible rfl
                        rotate_left
                        · simp only [Act.put, List.setIfInBounds_toArray, List.set_cons_zero, List.set_cons_succ, i64_w, i32_w]
                          rfl
                        refine pure_ (i := 10) (N := some 63) (v := ?_) (a' := ?_) #[true, true, true, true, true, true, true, true, true, true, true, false, false, false, false, false] rfl rfl (any_of HT_.out (by kernel_rfl)) (fun _ _ _ h => h) (Or.inl ⟨by rfl, ?_⟩) ?_ ?_
                        rotate_left
                        · intro w'
                          go_simp
                          with_reducible rfl
                        rotate_left
                        · simp only [Act.put, List.setIfInBounds_toArray, List.set_cons_zero, List.set_cons_succ, i64_w, i32_w]
                          rfl
                        refine pure_ (i := 12) (N := some 65) (v := ?_) (a' := ?_) #[true, true, true, true, true, true, true, true, true, true, true, false, true, false, false, false] rfl rfl (any_of HT_.out (by kernel_rfl)) (fun _ _ _ h => h) (Or.inl ⟨by rfl, ?_⟩) ?_ ?_
                        rotate_left
                        · intro w'
                          go_simp
                          with_reducible rfl
                        rotate_left
                        · simp only [Act.put, List.setIfInBounds_toArray, List.set_cons_zero, List.set_cons_succ, i64_w, i32_w]
                          rfl
                        refine take_ (i := 11) (N := some 64) (v := ?_) (a' := ?_) #[true, true, true, true, true, true, true, true, true, true, true, true, true, false, false, false] rfl rfl (take_ofW HT_.out HW_.out (by kernel_rfl)) (fun _ _ _ h => h) (Or.inl ⟨by rfl, ?_⟩) hHeld ?_ ?_
                        rotate_left
                        · intro w' s0
                          go_simp
                          with_reducible rfl
                        rotate_left
                        · simp only [Act.put, List.setIfInBounds_toArray, List.set_cons_zero, List.set_cons_succ, i64_w, i32_w]
                          rfl
                        refine pure_ (i := 13) (N := some 66) (v := ?_) (a' := ?_) #[true, true, true, true, true, true, true, true, true, true, true, true, true, true, false, false] rfl rfl (any_of HT_.out (by kernel_rfl)) (fun _ _ _ h => h) (Or.inl ⟨by rfl, ?_⟩) ?_ ?_
                        rotate_left
                        · intro w'
                          go_simp
                          with_reducible rfl
                        rotate_left
                        · simp only [Act.put, List.setIfInBounds_toArray, List.set_cons_zero, List.set_cons_succ, i64_w, i32_w]
                          rfl
                        refine pure_ (i := 14) (N := some 67) (v := ?_) (a' := ?_) #[true, true, true, true, true, true, true, true, true, true, true, true, true, true, true, false] rfl rfl (any_of HT_.out (by kernel_rfl)) (fun _ _ _ h => h) (Or.inl ⟨by rfl, ?_⟩) ?_ ?_
                        rotate_left
                        · intro w'
                          go_simp
                          with_reducible rfl
                        rotate_left
                        · simp only [Act.put, List.setIfInBounds_toArray, List.set_cons_zero, List.set_cons_succ, i64_w, i32_w]
                          rfl
                        refine last_ (i := 15) (N := none) #[true, true, true, true, true, true, true, true, true, true, true, true, true, true, true, true] rfl rfl (one_of HT_.out (by kernel_rfl)) (by decide) (fun K hK => ?_)
                        refine skip_ (w1 := ?_) (by rfl) rfl ?_ ?_
                        rotate_left
                        · go_simp
                          rfl
                        refine hK.out _ _ ?_
                        clear hK K
                        refine done_ (done_of HT_.out (by kernel_rfl)) ?_
                        have hcv34 := Kb.Q_string (P := Try.prog) Try.underlying42 Try.underlying5 Try.underlying9 (by exact HQ33.out)
                        try go_wp2
                        go_meet
                        case rel => exact ⟨_, ((strOfNums y519) ++ a6), (by first | rfl | (simp; done) | (congr 2; simp only [ByteArray.size_extract, ByteArray.size_append]; (try have := of_eq_true c21b0); (try have := of_eq_true c28b0); (try unfold wrap64); omega) | (simp only [ByteArray.size_extract, ByteArray.size_append, Nat.sub_zero]; done) | (congr 1; simp only [ByteArray.size_extract, ByteArray.size_append, Nat.sub_zero]; (try have := of_eq_true c21b0); (try have := of_eq_true c28b0); omega) | (simp [*]; done)), H', ⟨by have := HJ11.out; first | omega | exact Nat.le_refl _⟩, ⟨by (with_reducible repeat (first | refine blk_drewN ?_ _ | refine blk_drew ?_ | refine blk_alloc ?_ _)); refine blk_far ?_ (by have h_ := Kb.Q_ne HO517.out BK502.out (by decide); intro e_; exact h_ (by rw [e_]; rfl)) _; (with_reducible repeat (first | refine blk_drewN ?_ _ | refine blk_drew ?_ | refine blk_alloc ?_ _)); exact BK502.out⟩, ⟨by repeat (first | (with_reducible first | exact HB.out | apply below_alloc | apply pw_below_drewN | apply below_drew1 | refine below_set ?_ GB27.out | refine below_set ?_ GE502.out) | exact HB.out)⟩⟩
                      · rw [if_neg c28] at H
                        exact absurd H (by simp)
                    · rw [if_neg c26] at H
                      exact absurd H (by simp)
                  · rw [if_neg c25] at H
                    exact absurd H (by simp)
              · rw [if_neg c22] at H
                have c22b0 : decide (a4 < 0) = false := decide_eq_false c22
                clear c22
                (first | rw [c22b0] | (simp only [i64_w, i32_w]; rw [c22b0]) | skip)
                by_cases c35 : (y515.length : Int) = 0
                · rw [if_pos c35] at H
                  exact absurd H (by simp)
                · rw [if_neg c35] at H
                  have c35b0 : ((y515.length : Int) == 0) = false := beq_eq_false_iff_ne.mpr c35
                  have c35b1 : ((y515.length : Int) != 0) = true := bne_iff_ne.mpr c35
                  have c35b2 : ¬ (y515 = []) := fun h_ => c35 (by rw [h_]; rfl)
                  obtain ⟨ji36, hji36⟩ : ∃ j_ : Int, (Int.tmod a4 (y515.length : Int)) = j_ := ⟨_, rfl⟩
                  replace H : (if 0 ≤ (ji36) then (if (ji36) < (y515.length : Int) then ((some (y515.set ((ji36) : Int).toNat (Go.bits .xor .u8 (rd y515 (ji36)) a5) : List Int)).bind fun y521 => (if (strOfNums y521).size + a6.size ≤ 9223372036854775807 then (weighbridgelaw04_Ip4Parses.j1 kj11 ((strOfNums y521) ++ a6) true) else (none))) else (none)) else (none)) = some r := by first | (rw [hji36] at H; exact H) | (simp only [hji36] at H ⊢; exact H)
                  by_cases c37 : 0 ≤ (ji36)
                  · rw [if_pos c37] at H
                    have c37b0 : decide (0 ≤ (ji36)) = true := decide_eq_true c37
                    clear c37
                    by_cases c38 : (ji36) < (y515.length : Int)
                    · rw [if_pos c38] at H
                      have c38b0 : decide ((ji36) < (y515.length : Int)) = true := decide_eq_true c38
                      clear c38
                      obtain ⟨y521, hy521⟩ : ∃ y_ : List Int, y_ = (y515.set ((ji36) : Int).toNat (Go.bits .xor .u8 (rd y515 (ji36)) a5)) := ⟨_, rfl⟩
                      replace H : (if (strOfNums y521).size + a6.size ≤ 9223372036854775807 then (weighbridgelaw04_Ip4Parses.j1 kj11 ((strOfNums y521) ++ a6) true) else (none)) = some r := by first | (rw [hy521]; with_reducible exact H) | (have H2_ := (Option.bind_some _ _).symm.trans H; rw [hy521]; with_reducible exact H2_) | (have H2_ := (Option.bind_some _ _).symm.trans H; with_reducible exact H2_) | with_reducible exact H | (rw [hy521]; exact H) | exact H
                      have Ny521 := Aside0.mk hy521
                      clear hy521
                      by_cases c40 : (strOfNums y521).size + a6.size ≤ 9223372036854775807
                      · rw [if_pos c40] at H
                        have c40b0 := eq_true c40
                        have c40b1 : decide ((strOfNums y521).size + a6.size ≤ 9223372036854775807) = true := decide_eq_true c40
                        try have c40b2 : (9223372036854775807 < (strOfNums y521).size + a6.size) = False := eq_false (Nat.not_lt.2 c40)
                        have H' := Aside0.mk H
                        clear H
                        try go_wp2_with (first | ((with_reducible refine gate_dst (N := 47) rfl ?_); refine Kb.Q_conv (Kd.int .u8) 5 rfl (N := 47) rfl 9 42 _ rfl t513 rfl Try.underlying9 Try.underlying42 Try.underlying5 (ok := fun _ => True) trivial (of_decide_eq_true (by first | (with_reducible assumption) | assumption)) ?_; intro v516 w41 ho42 hb hg_ hnew_; clear hg_ hnew_; (first | rw [← Ny515.out] at ho42 | (simp only [Int.reduceToNat] at ho42; rw [← Ny515.out] at ho42)); have n0_ := Aside0.mk (Kb.Q_lower ho42 (below_size (by repeat (first | (with_reducible first | exact HB.out | apply below_alloc | apply pw_below_drewN | apply below_drew1 | refine below_set ?_ GE502.out) | exact HB.out)))); have n1_ := Aside0.mk (blk_below (g := gb502) (o := .cells #[.int .i64 a1_0, .int .i64 a1_1, .int .i64 a1_2, .int .i64 a1_3, .int .i64 a1_4, .int .i64 a1_5, .int .u32 a1_6, .int .u32 a1_7, .string a1_8] 24 (0, 0)) (by (with_reducible repeat (first | refine blk_drewN ?_ _ | refine blk_drew ?_ | refine blk_alloc ?_ _)); exact BK502.out) hb); have n2_ := Aside0.mk (below_step (by repeat (first | (with_reducible first | exact HB.out | apply below_alloc | apply pw_below_drewN | apply below_drew1 | refine below_set ?_ GE502.out) | exact HB.out)) hb); clear BK502; clear HB; have HO517 := n0_; have BK502 := n1_; have HB := n2_; clear n0_ n1_ n2_; clear hb ho42))
                        have n0_ := Aside0.mk (Kb.Q_drew HO517.out)
                        have n1_ := Aside0.mk (blk_drew BK502.out)
                        have n2_ := Aside0.mk (below_drew1 HB.out)
                        clear HO517
                        clear BK502
                        clear HB
                        have HO517 := n0_
                        have BK502 := n1_
                        have HB := n2_
                        clear n0_ n1_ n2_
                        obtain ⟨Ao44, co44, eo44, _⟩ := Kb.Q_slice HO517.out
                        (first | subst eo44 | (injection eo44 with f1_ f2_ f3_; have f4_ := f1_.symm; have f5_ := f3_.symm; clear f1_ f2_ f3_; subst f4_; subst f5_))
                        have p520 : 0 ≤ ((ji36) : Int) := of_decide_eq_true (by first | (with_reducible assumption) | assumption)
                        have q520 : (ji36) < (y515.length : Int) := of_decide_eq_true (by first | (with_reducible assumption) | assumption)
                        obtain ⟨ad520, e520, hx520_0⟩ := Kd.at_int (Kb.Q_reads' HO517.out).2.2 (ji36) p520 q520
                        cases e520
                        replace p520 := eq_true p520
                        replace q520 := eq_true q520
                        have p39 : 0 ≤ ((ji36) : Int) := of_decide_eq_true (by first | (with_reducible assumption) | assumption)
                        have q39 : ((ji36) : Int) < ((y515.length : Int) : Int) := of_decide_eq_true (by first | (with_reducible assumption) | assumption)
                        obtain ⟨go39, co39, eo39, gb39, gl39, cl39, HG39⟩ := Kb.Q_form HO517.out (by omega)
                        (first | cases eo39 | (injection eo39 with ea_ en_ ec_; (first | subst ea_ | (injection ea_ with ea_; subst ea_)); subst ec_; clear en_))
                        have GB39 := Aside0.mk gb39
                        have GG39 := Aside0.mk HG39
                        clear gb39 gl39 HG39
                        (first | simp only [add_at, Nat.zero_add] at hx520_0 | skip)
                        obtain ⟨hx39_0, hf39_0⟩ := Kb.Q_cell 0 HO517.out ((ji36) : Int) p39 q39
                        replace p39 := eq_true p39
                        replace q39 := eq_true q39
                        have HP45 := (Kb.Q_putg HO517.out ((ji36) : Int) (of_decide_eq_true (by first | (with_reducible assumption) | assumption)) (by have h_ : ((ji36) : Int) < ((y515.length : Int) : Int) := of_decide_eq_true (by first | (with_reducible assumption) | assumption); first | exact h_ | (have e_ := (Kb.Q_reads' HO517.out).1; omega) | simpa using h_) (Go.bits .xor .u8 (rd y515 (ji36)) a5)).1
                        rw [← Ny521.out] at HP45
                        have HQ45 := Aside0.mk HP45
                        clear HP45
                        refine start_ (n := 16) (S := fun w' => w'.cell? ⟨go39, ((ji36)).toNat, none⟩ = some (.int .u8 (rd y515 (ji36)))) (ds := [15]) #[false, false, false, false, false, false, false, false, false, false, false, false, false, false, false, false] (by kernel_rfl) rfl rfl (hx520_0) (fun hHeld => ?_); refine with_tabW weighbridgelaw04_Ip4Parses.tab9 weighbridgelaw04_Ip4Parses.bits9 (fun HT_ HW_ => ?_)
                        generalize w41.drew = w43 at HO517 BK502 HB GG39 HQ45 hf39_0 hx39_0 hx520_0 hHeld ⊢
                        refine pure_ (i := 0) (N := some 53) (v := ?_) (a' := ?_) #[true, false, false, false, false, false, false, false, false, false, false, false, false, false, false, false] rfl rfl (any_of HT_.out (by kernel_rfl)) (fun _ _ _ h => h) (Or.inl ⟨by rfl, ?_⟩) ?_ ?_
                        rotate_left
                        · intro w'
                          go_simp
                          with_reducible rfl
                        rotate_left
                        · simp only [Act.put, List.setIfInBounds_toArray, List.set_cons_zero, List.set_cons_succ, i64_w, i32_w]
                          rfl
                        refine pure_ (i := 1) (N := some 54) (v := ?_) (a' := ?_) #[true, true, false, false, false, false, false, false, false, false, false, false, false, false, false, false] rfl rfl (any_of HT_.out (by kernel_rfl)) (fun _ _ _ h => h) (Or.inl ⟨by rfl, ?_⟩) ?_ ?_
                        rotate_left
                        · intro w'
                          go_simp
                          with_reducible rfl
                        rotate_left
                        · simp only [Act.put, List.setIfInBounds_toArray, List.set_cons_zero, List.set_cons_succ, i64_w, i32_w]
                          rfl
                        refine pure_ (i := 2) (N := some 55) (v := ?_) (a' := ?_) #[true, true, true, false, false, false, false, false, false, false, false, false, false, false, false, false] rfl rfl (any_of HT_.out (by kernel_rfl)) (fun _ _ _ h => h) (Or.inl ⟨by rfl, ?_⟩) ?_ ?_
                        rotate_left
                        · intro w'
                          go_simp
                          with_reducible rfl
                        rotate_left
                        · simp only [Act.put, List.setIfInBounds_toArray, List.set_cons_zero, List.set_cons_succ, i64_w, i32_w]
                          rfl
                        refine pure_ (i := 3) (N := some 56) (v := ?_) (a' := ?_) #[true, true, true, true, false, false, false, false, false, false, false, false, false, false, false, false] rfl rfl (any_of HT_.out (by kernel_rfl)) (fun _ _ _ h => h) (Or.inl ⟨by rfl, ?_⟩) ?_ ?_
                        rotate_left
                        · intro w'
                          go_simp
                          with_reducible rfl
                        rotate_left
                        · simp only [Act.put, List.setIfInBounds_toArray, List.set_cons_zero, List.set_cons_succ, i64_w, i32_w]
                          rfl
                        refine pure_ (i := 4) (N := some 57) (v := ?_) (a' := ?_) #[true, true, true, true, true, false, false, false, false, false, false, false, false, false, false, false] rfl rfl (any_of HT_.out (by kernel_rfl)) (fun _ _ _ h => h) (Or.inl ⟨by rfl, ?_⟩) ?_ ?_
                        rotate_left
                        · intro w'
                          go_simp
                          with_reducible rfl
                        rotate_left
                        · simp only [Act.put, List.setIfInBounds_toArray, List.set_cons_zero, List.set_cons_succ, i64_w, i32_w]
                          rfl
                        refine pure_ (i := 5) (N := some 58) (v := ?_) (a' := ?_) #[true, true, true, true, true, true, false, false, false, false, false, false, false, false, false, false] rfl rfl (any_of HT_.out (by kernel_rfl)) (fun _ _ _ h => h) (Or.inl ⟨by rfl, ?_⟩) ?_ ?_
                        rotate_left
                        · intro w'
                          go_simp
                          with_reducible rfl
                        rotate_left
                        · simp only [Act.put, List.setIfInBounds_toArray, List.set_cons_zero, List.set_cons_succ, i64_w, i32_w]
                          rfl
                        refine pure_ (i := 6) (N := some 59) (v := ?_) (a' := ?_) #[true, true, true, true, true, true, true, false, false, false, false, false, false, false, false, false] rfl rfl (any_of HT_.out (by kernel_rfl)) (fun _ _ _ h => h) (Or.inl ⟨by rfl, ?_⟩) ?_ ?_
                        rotate_left
                        · intro w'
                          go_simp
                          with_reducible rfl
                        rotate_left
                        · simp only [Act.put, List.setIfInBounds_toArray, List.set_cons_zero, List.set_cons_succ, i64_w, i32_w]
                          rfl
                        refine pure_ (i := 7) (N := some 60) (v := ?_) (a' := ?_) #[true, true, true, true, true, true, true, true, false, false, false, false, false, false, false, false] rfl rfl (any_of HT_.out (by kernel_rfl)) (fun _ _ _ h => h) (Or.inl ⟨by rfl, ?_⟩) ?_ ?_
                        rotate_left
                        · intro w'
                          go_simp
                          with_reducible rfl
                        rotate_left
                        · simp only [Act.put, List.setIfInBounds_toArray, List.set_cons_zero, List.set_cons_succ, i64_w, i32_w]
                          rfl
                        refine pure_ (i := 8) (N := some 61) (v := ?_) (a' := ?_) #[true, true, true, true, true, true, true, true, true, false, false, false, false, false, false, false] rfl rfl (any_of HT_.out (by kernel_rfl)) (fun _ _ _ h => h) (Or.inl ⟨by rfl, ?_⟩) ?_ ?_
                        rotate_left
                        · intro w'
                          go_simp
                          with_reducible rfl
                        rotate_left
                        · simp only [Act.put, List.setIfInBounds_toArray, List.set_cons_zero, List.set_cons_succ, i64_w, i32_w]
                          rfl
                        refine pure_ (i := 9) (N := some 62) (v := ?_) (a' := ?_) #[true, true, true, true, true, true, true, true, true, true, false, false, false, false, false, false] rfl rfl (any_of HT_.out (by kernel_rfl)) (fun _ _ _ h => h) (Or.inl ⟨by rfl, ?_⟩) ?_ ?_
                        rotate_left
                        · intro w'
                          go_simp
                          with_reducible rfl
                        rotate_left
                        · simp only [Act.put, List.setIfInBounds_toArray, List.set_cons_zero, List.set_cons_succ, i64_w, i32_w]
                          rfl
                        refine pure_ (i := 10) (N := some 63) (v := ?_) (a' := ?_) #[true, true, true, true, true, true, true, true, true, true, true, false, false, false, false, false] rfl rfl (any_of HT_.out (by kernel_rfl)) (fun _ _ _ h => h) (Or.inl ⟨by rfl, ?_⟩) ?_ ?_
                        rotate_left
                        · intro w'
                          go_simp
                          with_reducible rfl
                        rotate_left
                        · simp only [Act.put, List.setIfInBounds_toArray, List.set_cons_zero, List.set_cons_succ, i64_w, i32_w]
                          rfl
                        refine pure_ (i := 12) (N := some 65) (v := ?_) (a' := ?_) #[true, true, true, true, true, true, true, true, true, true, true, false, true, false, false, false] rfl rfl (any_of HT_.out (by kernel_rfl)) (fun _ _ _ h => h) (Or.inl ⟨by rfl, ?_⟩) ?_ ?_
                        rotate_left
                        · intro w'
                          go_simp
                          with_reducible rfl
                        rotate_left
                        · simp only [Act.put, List.setIfInBounds_toArray, List.set_cons_zero, List.set_cons_succ, i64_w, i32_w]
                          rfl
                        refine take_ (i := 11) (N := some 64) (v := ?_) (a' := ?_) #[true, true, true, true, true, true, true, true, true, true, true, true, true, false, false, false] rfl rfl (take_ofW HT_.out HW_.out (by kernel_rfl)) (fun _ _ _ h => h) (Or.inl ⟨by rfl, ?_⟩) hHeld ?_ ?_
                        rotate_left
                        · intro w' s0
                          go_simp
                          with_reducible rfl
                        rotate_left
                        · simp only [Act.put, List.setIfInBounds_toArray, List.set_cons_zero, List.set_cons_succ, i64_w, i32_w]
                          rfl
                        refine pure_ (i := 13) (N := some 66) (v := ?_) (a' := ?_) #[true, true, true, true, true, true, true, true, true, true, true, true, true, true, false, false] rfl rfl (any_of HT_.out (by kernel_rfl)) (fun _ _ _ h => h) (Or.inl ⟨by rfl, ?_⟩) ?_ ?_
                        rotate_left
                        · intro w'
                          go_simp
                          with_reducible rfl
                        rotate_left
                        · simp only [Act.put, List.setIfInBounds_toArray, List.set_cons_zero, List.set_cons_succ, i64_w, i32_w]
                          rfl
                        refine pure_ (i := 14) (N := some 67) (v := ?_) (a' := ?_) #[true, true, true, true, true, true, true, true, true, true, true, true, true, true, true, false] rfl rfl (any_of HT_.out (by kernel_rfl)) (fun _ _ _ h => h) (Or.inl ⟨by rfl, ?_⟩) ?_ ?_
                        rotate_left
                        · intro w'
                          go_simp
                          with_reducible rfl
                        rotate_left
                        · simp only [Act.put, List.setIfInBounds_toArray, List.set_cons_zero, List.set_cons_succ, i64_w, i32_w]
                          rfl
                        refine last_ (i := 15) (N := none) #[true, true, true, true, true, true, true, true, true, true, true, true, true, true, true, true] rfl rfl (one_of HT_.out (by kernel_rfl)) (by decide) (fun K hK => ?_)
                        refine skip_ (w1 := ?_) (by rfl) rfl ?_ ?_
                        rotate_left
                        · go_simp
                          rfl
                        refine hK.out _ _ ?_
                        clear hK K
                        refine done_ (done_of HT_.out (by kernel_rfl)) ?_
                        have hcv46 := Kb.Q_string (P := Try.prog) Try.underlying42 Try.underlying5 Try.underlying9 (by exact HQ45.out)
                        try go_wp2
                        go_meet
                        case rel => exact ⟨_, ((strOfNums y521) ++ a6), (by first | rfl | (simp; done) | (congr 2; simp only [ByteArray.size_extract, ByteArray.size_append]; (try have := of_eq_true c21b0); (try have := of_eq_true c40b0); (try unfold wrap64); omega) | (simp only [ByteArray.size_extract, ByteArray.size_append, Nat.sub_zero]; done) | (congr 1; simp only [ByteArray.size_extract, ByteArray.size_append, Nat.sub_zero]; (try have := of_eq_true c21b0); (try have := of_eq_true c40b0); omega) | (simp [*]; done)), H', ⟨by have := HJ11.out; first | omega | exact Nat.le_refl _⟩, ⟨by (with_reducible repeat (first | refine blk_drewN ?_ _ | refine blk_drew ?_ | refine blk_alloc ?_ _)); refine blk_far ?_ (by have h_ := Kb.Q_ne HO517.out BK502.out (by decide); intro e_; exact h_ (by rw [e_]; rfl)) _; (with_reducible repeat (first | refine blk_drewN ?_ _ | refine blk_drew ?_ | refine blk_alloc ?_ _)); exact BK502.out⟩, ⟨by repeat (first | (with_reducible first | exact HB.out | apply below_alloc | apply pw_below_drewN | apply below_drew1 | refine below_set ?_ GB39.out | refine below_set ?_ GE502.out) | exact HB.out)⟩⟩
                      · rw [if_neg c40] at H
                        exact absurd H (by simp)
                    · rw [if_neg c38] at H
                      exact absurd H (by simp)
                  · rw [if_neg c37] at H
                    exact absurd H (by simp)
            · rw [if_neg c21] at H
              exact absurd H (by simp)
          · replace c20 := Bool.eq_false_iff.mpr c20
            subst c20
            have H1 : (weighbridgelaw04_Ip4Parses.j1 kj11 a0 true) = some r := by rw [if_neg (show ¬ (false = true) by decide)] at H; exact H
            clear H
            have H := H1
            clear H1
            have H' := Aside0.mk H
            clear H
            go_wp2
            go_meet
            case rel => exact ⟨_, (a0), (by first | rfl | (simp; done) | (congr 2; simp only [ByteArray.size_extract, ByteArray.size_append]; (try unfold wrap64); omega) | (simp only [ByteArray.size_extract, ByteArray.size_append, Nat.sub_zero]; done) | (congr 1; simp only [ByteArray.size_extract, ByteArray.size_append, Nat.sub_zero]; omega) | (simp [*]; done)), H', ⟨by have := HJ11.out; first | omega | exact Nat.le_refl _⟩, ⟨by (with_reducible repeat (first | refine blk_drewN ?_ _ | refine blk_drew ?_ | refine blk_alloc ?_ _)); exact BK502.out⟩, ⟨by repeat (first | (with_reducible first | exact HB.out | apply below_alloc | apply pw_below_drewN | apply below_drew1 | refine below_set ?_ GE502.out) | exact HB.out)⟩⟩
        case rest =>
          clear HC19
          try clear c1
          try clear c2
          try clear p2
          try clear q2
          try clear hx2
          try clear c3
          try clear p3
          try clear q3
          try clear hx3
          try clear hcv3
          try clear c4
          try clear p4
          try clear hcv4
          try clear p5
          try clear q5
          try clear hx5
          try clear p6
          try clear c9
          try clear c10
          try clear c12
          try clear c13
          try clear c18
          try clear c20
          try clear c21
          try clear c21b0
          try clear c21b1
          try clear c22
          try clear c22b0
          try clear c23
          try clear c23b0
          try clear c23b1
          try clear c23b2
          try clear c25
          try clear c25b0
          try clear c26
          try clear c26b0
          try clear p27
          try clear q27
          try clear hx27
          try clear hf27
          try clear c28
          try clear c28b0
          try clear c28b1
          try clear c28b2
          try clear hcv34
          try clear c35
          try clear c35b0
          try clear c35b1
          try clear c35b2
          try clear c37
          try clear c37b0
          try clear c38
          try clear c38b0
          try clear p39
          try clear q39
          try clear hx39
          try clear hf39
          try clear c40
          try clear c40b0
          try clear c40b1
          try clear c40b2
          try clear hcv46
          try clear hcz15_0
          try clear hcz15_1
          try clear hcz15_2
          try clear hcz15_3
          try clear hcz15_4
          try clear hcz15_5
          try clear hcz15_6
          try clear hcz15_7
          try clear hcz15_8
          try clear hfz15_0
          try clear hfz15_1
          try clear hfz15_2
          try clear hfz15_3
          try clear hfz15_4
          try clear hfz15_5
          try clear hfz15_6
          try clear hfz15_7
          try clear hfz15_8
          try clear hx27_0
          try clear hx39_0
          try clear hx518_0
          try clear hx520_0
          try clear p2
          try clear p27
          try clear p39
          try clear p4
          try clear p518
          try clear p520
          try clear q27
          try clear q39
          try clear q518
          try clear q520
          obtain ⟨kq, x0_18, rfl, HA, HJ18, BK502, HB⟩ := hcut
          cases kq with
          | zero => exact absurd HA.out (by simp [weighbridgelaw04_Ip4Parses.j1])
          | succ kj18 =>
            have H := HA.out
            clear HA
            simp only [weighbridgelaw04_Ip4Parses.j1] at H
            replace H := Option.bind_eq_some_iff.mp H
            obtain ⟨⟨t522, t523, t524, t525, t526, t527, t528, t529, t530, t531, t532⟩, A470, H⟩ := H
            replace H : ((weighbridgeref04_Parse.f x0_18).bind fun bt534 => ((ip4_Size.f x0_18).bind fun bt546 => ((weighbridgeref04_Sizes.f x0_18).bind fun bt549 => (if true = true then ((weighbridgelaw04_ref.f t522 t523 t524 t525 t526 t527 t528 t529 t530).bind fun bt552 => (if (bt552.1 == bt534.1 && (bt552.2.1 == bt534.2.1 && (bt552.2.2.1 == bt534.2.2.1 && (bt552.2.2.2.1 == bt534.2.2.2.1 && (bt552.2.2.2.2.1 == bt534.2.2.2.2.1 && (bt552.2.2.2.2.2.1 == bt534.2.2.2.2.2.1 && (bt552.2.2.2.2.2.2.1 == bt534.2.2.2.2.2.2.1 && (bt552.2.2.2.2.2.2.2.1 == bt534.2.2.2.2.2.2.2.1 && (bt552.2.2.2.2.2.2.2.2.toList == bt534.2.2.2.2.2.2.2.2.1.toList))))))))) = true then (if t531.toList = bt534.2.2.2.2.2.2.2.2.2.1.toList then (if t532 = bt534.2.2.2.2.2.2.2.2.2.2 then (if bt546.1 = bt549.1 then (if bt546.2.1 = bt549.2.1 then (some (bt546.2.2 == (bt549.2.2 == 0))) else (some false)) else (some false)) else (some false)) else (some false)) else (some false))) else (some false))))) = some r := H
            have A47 := Aside0.mk A470
            clear A470
            replace H := Option.bind_eq_some_iff.mp H
            obtain ⟨⟨t534, t535, t536, t537, t538, t539, t540, t541, t542, t543, t544⟩, A480, H⟩ := H
            replace H : ((ip4_Size.f x0_18).bind fun bt546 => ((weighbridgeref04_Sizes.f x0_18).bind fun bt549 => (if true = true then ((weighbridgelaw04_ref.f t522 t523 t524 t525 t526 t527 t528 t529 t530).bind fun bt552 => (if (bt552.1 == t534 && (bt552.2.1 == t535 && (bt552.2.2.1 == t536 && (bt552.2.2.2.1 == t537 && (bt552.2.2.2.2.1 == t538 && (bt552.2.2.2.2.2.1 == t539 && (bt552.2.2.2.2.2.2.1 == t540 && (bt552.2.2.2.2.2.2.2.1 == t541 && (bt552.2.2.2.2.2.2.2.2.toList == t542.toList))))))))) = true then (if t531.toList = t543.toList then (if t532 = t544 then (if bt546.1 = bt549.1 then (if bt546.2.1 = bt549.2.1 then (some (bt546.2.2 == (bt549.2.2 == 0))) else (some false)) else (some false)) else (some false)) else (some false)) else (some false))) else (some false)))) = some r := H
            have A48 := Aside0.mk A480
            clear A480
            replace H := Option.bind_eq_some_iff.mp H
            obtain ⟨⟨t546, t547, t548⟩, A490, H⟩ := H
            replace H : ((weighbridgeref04_Sizes.f x0_18).bind fun bt549 => (if true = true then ((weighbridgelaw04_ref.f t522 t523 t524 t525 t526 t527 t528 t529 t530).bind fun bt552 => (if (bt552.1 == t534 && (bt552.2.1 == t535 && (bt552.2.2.1 == t536 && (bt552.2.2.2.1 == t537 && (bt552.2.2.2.2.1 == t538 && (bt552.2.2.2.2.2.1 == t539 && (bt552.2.2.2.2.2.2.1 == t540 && (bt552.2.2.2.2.2.2.2.1 == t541 && (bt552.2.2.2.2.2.2.2.2.toList == t542.toList))))))))) = true then (if t531.toList = t543.toList then (if t532 = t544 then (if t546 = bt549.1 then (if t547 = bt549.2.1 then (some (t548 == (bt549.2.2 == 0))) else (some false)) else (some false)) else (some false)) else (some false)) else (some false))) else (some false))) = some r := H
            have A49 := Aside0.mk A490
            clear A490
            replace H := Option.bind_eq_some_iff.mp H
            obtain ⟨⟨t549, t550, t551⟩, A500, H⟩ := H
            replace H : (if true = true then ((weighbridgelaw04_ref.f t522 t523 t524 t525 t526 t527 t528 t529 t530).bind fun bt552 => (if (bt552.1 == t534 && (bt552.2.1 == t535 && (bt552.2.2.1 == t536 && (bt552.2.2.2.1 == t537 && (bt552.2.2.2.2.1 == t538 && (bt552.2.2.2.2.2.1 == t539 && (bt552.2.2.2.2.2.2.1 == t540 && (bt552.2.2.2.2.2.2.2.1 == t541 && (bt552.2.2.2.2.2.2.2.2.toList == t542.toList))))))))) = true then (if t531.toList = t543.toList then (if t532 = t544 then (if t546 = t549 then (if t547 = t550 then (some (t548 == (t551 == 0))) else (some false)) else (some false)) else (some false)) else (some false)) else (some false))) else (some false)) = some r := H
            have A50 := Aside0.mk A500
            clear A500
            have c51 : true = true := rfl
            · clear c51
              have H1 : ((weighbridgelaw04_ref.f t522 t523 t524 t525 t526 t527 t528 t529 t530).bind fun bt552 => (if (bt552.1 == t534 && (bt552.2.1 == t535 && (bt552.2.2.1 == t536 && (bt552.2.2.2.1 == t537 && (bt552.2.2.2.2.1 == t538 && (bt552.2.2.2.2.2.1 == t539 && (bt552.2.2.2.2.2.2.1 == t540 && (bt552.2.2.2.2.2.2.2.1 == t541 && (bt552.2.2.2.2.2.2.2.2.toList == t542.toList))))))))) = true then (if t531.toList = t543.toList then (if t532 = t544 then (if t546 = t549 then (if t547 = t550 then (some (t548 == (t551 == 0))) else (some false)) else (some false)) else (some false)) else (some false)) else (some false))) = some r := by first | (rw [if_pos rfl] at H; exact H) | (rw [if_pos trivial] at H; exact H)
              clear H
              have H := H1
              clear H1
              replace H := Option.bind_eq_some_iff.mp H
              obtain ⟨⟨t552, t553, t554, t555, t556, t557, t558, t559, t560⟩, A520, H⟩ := H
              replace H : (if (t552 == t534 && (t553 == t535 && (t554 == t536 && (t555 == t537 && (t556 == t538 && (t557 == t539 && (t558 == t540 && (t559 == t541 && (t560.toList == t542.toList))))))))) = true then (if t531.toList = t543.toList then (if t532 = t544 then (if t546 = t549 then (if t547 = t550 then (some (t548 == (t551 == 0))) else (some false)) else (some false)) else (some false)) else (some false)) else (some false)) = some r := H
              have A52 := Aside0.mk A520
              clear A520
              by_cases c53 : (t552 == t534 && (t553 == t535 && (t554 == t536 && (t555 == t537 && (t556 == t538 && (t557 == t539 && (t558 == t540 && (t559 == t541 && (t560.toList == t542.toList))))))))) = true
              · rw [if_pos c53] at H
                have c53b0 : (t552 == t534 && (t553 == t535 && (t554 == t536 && (t555 == t537 && (t556 == t538 && (t557 == t539 && (t558 == t540 && (t559 == t541 && (t560.toList == t542.toList))))))))) = true := c53
                (try (have c53b1 : decide (t552 = t534 && (t553 == t535 && (t554 == t536 && (t555 == t537 && (t556 == t538 && (t557 == t539 && (t558 == t540 && (t559 == t541 && (t560.toList == t542.toList))))))))) = true := by simpa using c53))
                (try (have c53b2 : (t552 == t534 && (t553 == t535 && (t554 == t536 && (t555 == t537 && (t556 == t538 && (t557 == t539 && (t558 == t540 && (t559 == t541 && (t560.toList == t542.toList))))))))) = true := by simpa using c53))
                clear c53
                by_cases c54 : t531.toList = t543.toList
                · rw [if_pos c54] at H
                  have c54b0 : (t531.toList == t543.toList) = true := beq_iff_eq.mpr c54
                  have c54b1 : (t531.toList != t543.toList) = false := bne_eq_false_iff_eq.mpr c54
                  clear c54
                  by_cases c55 : t532 = t544
                  · rw [if_pos c55] at H
                    have c55b0 : (t532 == t544) = true := beq_iff_eq.mpr c55
                    have c55b1 : (t532 != t544) = false := bne_eq_false_iff_eq.mpr c55
                    clear c55
                    by_cases c56 : t546 = t549
                    · rw [if_pos c56] at H
                      have c56b0 : (t546 == t549) = true := beq_iff_eq.mpr c56
                      have c56b1 : (t546 != t549) = false := bne_eq_false_iff_eq.mpr c56
                      clear c56
                      by_cases c57 : t547 = t550
                      · rw [if_pos c57] at H
                        have c57b0 : (t547 == t550) = true := beq_iff_eq.mpr c57
                        have c57b1 : (t547 != t550) = false := bne_eq_false_iff_eq.mpr c57
                        clear c57
                        obtain rfl := Option.some.inj H
                        try go_wp2_with (first | ((with_reducible refine gate_callee (f := 18) rfl ?_); refine goesL_ (some 74) rfl rfl Try.func18 (by kernel_rfl) rfl #[.string x0_18] rfl (by (try simp only [List.map_toArray, List.map_cons, List.map_nil]); first | done | rfl | (simp only [List.length_drop, List.length_take]; rfl)) ?_; (with_reducible refine (ip4_Parse.calls x0_18 t522 t523 t524 t525 t526 t527 t528 t529 t530 t531 t532 _ A47.out).mono ?_); rintro e w58 ⟨rfl, hb⟩; (try clear A47); refine ⟨_, rfl, ?_⟩; have n0_ := Aside0.mk (blk_below (g := gb502) (o := .cells #[.int .i64 a1_0, .int .i64 a1_1, .int .i64 a1_2, .int .i64 a1_3, .int .i64 a1_4, .int .i64 a1_5, .int .u32 a1_6, .int .u32 a1_7, .string a1_8] 24 (0, 0)) (by (with_reducible repeat (first | refine blk_drewN ?_ _ | refine blk_drew ?_ | refine blk_alloc ?_ _)); exact BK502.out) hb); have n1_ := Aside0.mk (below_step (by repeat (first | (with_reducible first | exact HB.out | apply below_alloc | apply pw_below_drewN | apply below_drew1 | refine below_set ?_ GE502.out) | exact HB.out)) hb); clear BK502; clear HB; have BK502 := n0_; have HB := n1_; clear n0_ n1_; (try clear hb); (try clear hb2); (try clear hk); (try clear hi)) | ((with_reducible refine gate_dst (N := 19) rfl ?_); refine box_event ?hg (N := 19) ?hd (cs := #[.int .i64 0, .int .i64 0, .int .i64 0, .int .i64 0, .int .i64 0, .int .i64 0, .int .u32 0, .int .u32 0, .string (⟨#[]⟩ : ByteArray)]) (t := 24) ?hr ?_; (case hd => rfl); (case hg => rfl); (case hr => first | (go_simp; done) | (go_simp; rfl)); intro gb533 hg w59 hbox hb; have n0_ := Aside0.mk (blk_below (g := gb502) (o := .cells #[.int .i64 a1_0, .int .i64 a1_1, .int .i64 a1_2, .int .i64 a1_3, .int .i64 a1_4, .int .i64 a1_5, .int .u32 a1_6, .int .u32 a1_7, .string a1_8] 24 (0, 0)) (by (with_reducible repeat (first | refine blk_drewN ?_ _ | refine blk_drew ?_ | refine blk_alloc ?_ _)); exact BK502.out) hb); have n1_ := Aside0.mk (below_step (by repeat (first | (with_reducible first | exact HB.out | apply below_alloc | apply pw_below_drewN | apply below_drew1 | refine below_set ?_ GE502.out) | exact HB.out)) hb); have n2_ := Aside0.mk (hbox); have n3_ := Aside0.mk ((by rw [hg]; exact (below_size (by repeat (first | (with_reducible first | exact HB.out | apply below_alloc | apply pw_below_drewN | apply below_drew1 | refine below_set ?_ GE502.out) | exact HB.out))) : w.heap.size ≤ gb533)); have n4_ := Aside0.mk ((by rw [hg]; exact (below_size (by repeat (first | (with_reducible first | exact HB.out | apply below_alloc | apply pw_below_drewN | apply below_drew1 | refine below_set ?_ GE502.out) | exact HB.out))) : w.heap.size ≤ gb533)); have n5_ := Aside0.mk ((by rw [hg]; exact Nat.ne_of_lt (blk_lt (g := gb502) (o := .cells #[.int .i64 a1_0, .int .i64 a1_1, .int .i64 a1_2, .int .i64 a1_3, .int .i64 a1_4, .int .i64 a1_5, .int .u32 a1_6, .int .u32 a1_7, .string a1_8] 24 (0, 0)) (by (with_reducible repeat (first | refine blk_drewN ?_ _ | refine blk_drew ?_ | refine blk_alloc ?_ _)); exact BK502.out)) : gb502 ≠ gb533)); have n6_ := Aside0.mk ((by rw [hg]; exact Nat.ne_of_gt (blk_lt (g := gb502) (o := .cells #[.int .i64 a1_0, .int .i64 a1_1, .int .i64 a1_2, .int .i64 a1_3, .int .i64 a1_4, .int .i64 a1_5, .int .u32 a1_6, .int .u32 a1_7, .string a1_8] 24 (0, 0)) (by (with_reducible repeat (first | refine blk_drewN ?_ _ | refine blk_drew ?_ | refine blk_alloc ?_ _)); exact BK502.out)) : gb533 ≠ gb502)); clear BK502; clear HB; have BK502 := n0_; have HB := n1_; have BK533 := n2_; have GW533 := n3_; have GE533 := n4_; have NB502_533 := n5_; have NB533_502 := n6_; clear n0_ n1_ n2_ n3_ n4_ n5_ n6_; clear hb hbox hg; have hnb60 := NB533_502.out; have hnc60 := NB502_533.out; have hcz61_0 : w59.cell? ⟨gb533, 0, none⟩ = some (.int .i64 0) := (blk_cell BK533.out 0).trans rfl; have hcz61_1 : w59.cell? ⟨gb533, 1, none⟩ = some (.int .i64 0) := (blk_cell BK533.out 1).trans rfl; have hcz61_2 : w59.cell? ⟨gb533, 2, none⟩ = some (.int .i64 0) := (blk_cell BK533.out 2).trans rfl; have hcz61_3 : w59.cell? ⟨gb533, 3, none⟩ = some (.int .i64 0) := (blk_cell BK533.out 3).trans rfl; have hcz61_4 : w59.cell? ⟨gb533, 4, none⟩ = some (.int .i64 0) := (blk_cell BK533.out 4).trans rfl; have hcz61_5 : w59.cell? ⟨gb533, 5, none⟩ = some (.int .i64 0) := (blk_cell BK533.out 5).trans rfl; have hcz61_6 : w59.cell? ⟨gb533, 6, none⟩ = some (.int .u32 0) := (blk_cell BK533.out 6).trans rfl; have hcz61_7 : w59.cell? ⟨gb533, 7, none⟩ = some (.int .u32 0) := (blk_cell BK533.out 7).trans rfl; have hcz61_8 : w59.cell? ⟨gb533, 8, none⟩ = some (.string (⟨#[]⟩ : ByteArray)) := (blk_cell BK533.out 8).trans rfl; have hfz61_0 := blk_frozen BK533.out 0; have hfz61_1 := blk_frozen BK533.out 1; have hfz61_2 := blk_frozen BK533.out 2; have hfz61_3 := blk_frozen BK533.out 3; have hfz61_4 := blk_frozen BK533.out 4; have hfz61_5 := blk_frozen BK533.out 5; have hfz61_6 := blk_frozen BK533.out 6; have hfz61_7 := blk_frozen BK533.out 7; have hfz61_8 := blk_frozen BK533.out 8) | ((with_reducible refine gate_callee (f := 20) rfl ?_); refine goesL_ (some 80) rfl rfl Try.func20 (by kernel_rfl) rfl #[.string x0_18] rfl (by (try simp only [List.map_toArray, List.map_cons, List.map_nil]); first | done | rfl | (simp only [List.length_drop, List.length_take]; rfl)) ?_; (with_reducible refine (weighbridgeref04_Parse.calls x0_18 t534 t535 t536 t537 t538 t539 t540 t541 t542 t543 t544 _ A48.out).mono ?_); rintro e w62 ⟨rfl, hb⟩; (try clear A48); refine ⟨_, rfl, ?_⟩; have n0_ := Aside0.mk (blk_below (g := gb502) (o := .cells #[.int .i64 a1_0, .int .i64 a1_1, .int .i64 a1_2, .int .i64 a1_3, .int .i64 a1_4, .int .i64 a1_5, .int .u32 a1_6, .int .u32 a1_7, .string a1_8] 24 (0, 0)) (by (with_reducible repeat (first | refine blk_drewN ?_ _ | refine blk_drew ?_ | refine blk_alloc ?_ _)); refine blk_far ?_ NB502_533.out _; (with_reducible repeat (first | refine blk_drewN ?_ _ | refine blk_drew ?_ | refine blk_alloc ?_ _)); refine blk_far ?_ NB502_533.out _; (with_reducible repeat (first | refine blk_drewN ?_ _ | refine blk_drew ?_ | refine blk_alloc ?_ _)); refine blk_far ?_ NB502_533.out _; (with_reducible repeat (first | refine blk_drewN ?_ _ | refine blk_drew ?_ | refine blk_alloc ?_ _)); refine blk_far ?_ NB502_533.out _; (with_reducible repeat (first | refine blk_drewN ?_ _ | refine blk_drew ?_ | refine blk_alloc ?_ _)); refine blk_far ?_ NB502_533.out _; (with_reducible repeat (first | refine blk_drewN ?_ _ | refine blk_drew ?_ | refine blk_alloc ?_ _)); refine blk_far ?_ NB502_533.out _; (with_reducible repeat (first | refine blk_drewN ?_ _ | refine blk_drew ?_ | refine blk_alloc ?_ _)); refine blk_far ?_ NB502_533.out _; (with_reducible repeat (first | refine blk_drewN ?_ _ | refine blk_drew ?_ | refine blk_alloc ?_ _)); refine blk_far ?_ NB502_533.out _; (with_reducible repeat (first | refine blk_drewN ?_ _ | refine blk_drew ?_ | refine blk_alloc ?_ _)); refine blk_far ?_ NB502_533.out _; (with_reducible repeat (first | refine blk_drewN ?_ _ | refine blk_drew ?_ | refine blk_alloc ?_ _)); exact BK502.out) hb); have n1_ := Aside0.mk (blk_below (g := gb533) (o := .cells #[.int .i64 t522, .int .i64 t523, .int .i64 t524, .int .i64 t525, .int .i64 t526, .int .i64 t527, .int .u32 t528, .int .u32 t529, .string t530] 24 (0, 0)) (by (with_reducible repeat (first | refine blk_drewN ?_ _ | refine blk_drew ?_ | refine blk_alloc ?_ _)); refine blk_put (cs := #[.int .i64 t522, .int .i64 t523, .int .i64 t524, .int .i64 t525, .int .i64 t526, .int .i64 t527, .int .u32 t528, .int .u32 t529, .string (⟨#[]⟩ : ByteArray)]) ?_ 8 _ rfl; (with_reducible repeat (first | refine blk_drewN ?_ _ | refine blk_drew ?_ | refine blk_alloc ?_ _)); refine blk_put (cs := #[.int .i64 t522, .int .i64 t523, .int .i64 t524, .int .i64 t525, .int .i64 t526, .int .i64 t527, .int .u32 t528, .int .u32 0, .string (⟨#[]⟩ : ByteArray)]) ?_ 7 _ rfl; (with_reducible repeat (first | refine blk_drewN ?_ _ | refine blk_drew ?_ | refine blk_alloc ?_ _)); refine blk_put (cs := #[.int .i64 t522, .int .i64 t523, .int .i64 t524, .int .i64 t525, .int .i64 t526, .int .i64 t527, .int .u32 0, .int .u32 0, .string (⟨#[]⟩ : ByteArray)]) ?_ 6 _ rfl; (with_reducible repeat (first | refine blk_drewN ?_ _ | refine blk_drew ?_ | refine blk_alloc ?_ _)); refine blk_put (cs := #[.int .i64 t522, .int .i64 t523, .int .i64 t524, .int .i64 t525, .int .i64 t526, .int .i64 0, .int .u32 0, .int .u32 0, .string (⟨#[]⟩ : ByteArray)]) ?_ 5 _ rfl; (with_reducible repeat (first | refine blk_drewN ?_ _ | refine blk_drew ?_ | refine blk_alloc ?_ _)); refine blk_put (cs := #[.int .i64 t522, .int .i64 t523, .int .i64 t524, .int .i64 t525, .int .i64 0, .int .i64 0, .int .u32 0, .int .u32 0, .string (⟨#[]⟩ : ByteArray)]) ?_ 4 _ rfl; (with_reducible repeat (first | refine blk_drewN ?_ _ | refine blk_drew ?_ | refine blk_alloc ?_ _)); refine blk_put (cs := #[.int .i64 t522, .int .i64 t523, .int .i64 t524, .int .i64 0, .int .i64 0, .int .i64 0, .int .u32 0, .int .u32 0, .string (⟨#[]⟩ : ByteArray)]) ?_ 3 _ rfl; (with_reducible repeat (first | refine blk_drewN ?_ _ | refine blk_drew ?_ | refine blk_alloc ?_ _)); refine blk_put (cs := #[.int .i64 t522, .int .i64 t523, .int .i64 0, .int .i64 0, .int .i64 0, .int .i64 0, .int .u32 0, .int .u32 0, .string (⟨#[]⟩ : ByteArray)]) ?_ 2 _ rfl; (with_reducible repeat (first | refine blk_drewN ?_ _ | refine blk_drew ?_ | refine blk_alloc ?_ _)); refine blk_put (cs := #[.int .i64 t522, .int .i64 0, .int .i64 0, .int .i64 0, .int .i64 0, .int .i64 0, .int .u32 0, .int .u32 0, .string (⟨#[]⟩ : ByteArray)]) ?_ 1 _ rfl; (with_reducible repeat (first | refine blk_drewN ?_ _ | refine blk_drew ?_ | refine blk_alloc ?_ _)); refine blk_put (cs := #[.int .i64 0, .int .i64 0, .int .i64 0, .int .i64 0, .int .i64 0, .int .i64 0, .int .u32 0, .int .u32 0, .string (⟨#[]⟩ : ByteArray)]) ?_ 0 _ rfl; (with_reducible repeat (first | refine blk_drewN ?_ _ | refine blk_drew ?_ | refine blk_alloc ?_ _)); exact BK533.out) hb); have n2_ := Aside0.mk (below_step (by repeat (first | (with_reducible first | exact HB.out | apply below_alloc | apply pw_below_drewN | apply below_drew1 | refine below_set ?_ GE502.out | refine below_set ?_ GE533.out) | exact HB.out)) hb); clear BK502; clear BK533; clear HB; have BK502 := n0_; have BK533 := n1_; have HB := n2_; clear n0_ n1_ n2_; (try clear hb); (try clear hb2); (try clear hk); (try clear hi)) | ((with_reducible refine gate_dst (N := 22) rfl ?_); refine box_event ?hg (N := 22) ?hd (cs := #[.int .i64 0, .int .i64 0, .int .i64 0, .int .i64 0, .int .i64 0, .int .i64 0, .int .u32 0, .int .u32 0, .string (⟨#[]⟩ : ByteArray)]) (t := 31) ?hr ?_; (case hd => rfl); (case hg => rfl); (case hr => first | (go_simp; done) | (go_simp; rfl)); intro gb545 hg w63 hbox hb; have n0_ := Aside0.mk (blk_below (g := gb502) (o := .cells #[.int .i64 a1_0, .int .i64 a1_1, .int .i64 a1_2, .int .i64 a1_3, .int .i64 a1_4, .int .i64 a1_5, .int .u32 a1_6, .int .u32 a1_7, .string a1_8] 24 (0, 0)) (by (with_reducible repeat (first | refine blk_drewN ?_ _ | refine blk_drew ?_ | refine blk_alloc ?_ _)); exact BK502.out) hb); have n1_ := Aside0.mk (blk_below (g := gb533) (o := .cells #[.int .i64 t522, .int .i64 t523, .int .i64 t524, .int .i64 t525, .int .i64 t526, .int .i64 t527, .int .u32 t528, .int .u32 t529, .string t530] 24 (0, 0)) (by (with_reducible repeat (first | refine blk_drewN ?_ _ | refine blk_drew ?_ | refine blk_alloc ?_ _)); exact BK533.out) hb); have n2_ := Aside0.mk (below_step (by repeat (first | (with_reducible first | exact HB.out | apply below_alloc | apply pw_below_drewN | apply below_drew1 | refine below_set ?_ GE502.out | refine below_set ?_ GE533.out) | exact HB.out)) hb); have n3_ := Aside0.mk (hbox); have n4_ := Aside0.mk ((by rw [hg]; exact (below_size (by repeat (first | (with_reducible first | exact HB.out | apply below_alloc | apply pw_below_drewN | apply below_drew1 | refine below_set ?_ GE502.out | refine below_set ?_ GE533.out) | exact HB.out))) : w.heap.size ≤ gb545)); have n5_ := Aside0.mk ((by rw [hg]; exact (below_size (by repeat (first | (with_reducible first | exact HB.out | apply below_alloc | apply pw_below_drewN | apply below_drew1 | refine below_set ?_ GE502.out | refine below_set ?_ GE533.out) | exact HB.out))) : w.heap.size ≤ gb545)); have n6_ := Aside0.mk ((by rw [hg]; exact Nat.ne_of_lt (blk_lt (g := gb502) (o := .cells #[.int .i64 a1_0, .int .i64 a1_1, .int .i64 a1_2, .int .i64 a1_3, .int .i64 a1_4, .int .i64 a1_5, .int .u32 a1_6, .int .u32 a1_7, .string a1_8] 24 (0, 0)) (by (with_reducible repeat (first | refine blk_drewN ?_ _ | refine blk_drew ?_ | refine blk_alloc ?_ _)); exact BK502.out)) : gb502 ≠ gb545)); have n7_ := Aside0.mk ((by rw [hg]; exact Nat.ne_of_gt (blk_lt (g := gb502) (o := .cells #[.int .i64 a1_0, .int .i64 a1_1, .int .i64 a1_2, .int .i64 a1_3, .int .i64 a1_4, .int .i64 a1_5, .int .u32 a1_6, .int .u32 a1_7, .string a1_8] 24 (0, 0)) (by (with_reducible repeat (first | refine blk_drewN ?_ _ | refine blk_drew ?_ | refine blk_alloc ?_ _)); exact BK502.out)) : gb545 ≠ gb502)); have n8_ := Aside0.mk ((by rw [hg]; exact Nat.ne_of_lt (blk_lt (g := gb533) (o := .cells #[.int .i64 t522, .int .i64 t523, .int .i64 t524, .int .i64 t525, .int .i64 t526, .int .i64 t527, .int .u32 t528, .int .u32 t529, .string t530] 24 (0, 0)) (by (with_reducible repeat (first | refine blk_drewN ?_ _ | refine blk_drew ?_ | refine blk_alloc ?_ _)); exact BK533.out)) : gb533 ≠ gb545)); have n9_ := Aside0.mk ((by rw [hg]; exact Nat.ne_of_gt (blk_lt (g := gb533) (o := .cells #[.int .i64 t522, .int .i64 t523, .int .i64 t524, .int .i64 t525, .int .i64 t526, .int .i64 t527, .int .u32 t528, .int .u32 t529, .string t530] 24 (0, 0)) (by (with_reducible repeat (first | refine blk_drewN ?_ _ | refine blk_drew ?_ | refine blk_alloc ?_ _)); exact BK533.out)) : gb545 ≠ gb533)); clear BK502; clear BK533; clear HB; have BK502 := n0_; have BK533 := n1_; have HB := n2_; have BK545 := n3_; have GW545 := n4_; have GE545 := n5_; have NB502_545 := n6_; have NB545_502 := n7_; have NB533_545 := n8_; have NB545_533 := n9_; clear n0_ n1_ n2_ n3_ n4_ n5_ n6_ n7_ n8_ n9_; clear hb hbox hg; have hnb64 := NB545_502.out; have hnc64 := NB502_545.out; have hnb65 := NB545_533.out; have hnc65 := NB533_545.out; have hcz66_0 : w63.cell? ⟨gb545, 0, none⟩ = some (.int .i64 0) := (blk_cell BK545.out 0).trans rfl; have hcz66_1 : w63.cell? ⟨gb545, 1, none⟩ = some (.int .i64 0) := (blk_cell BK545.out 1).trans rfl; have hcz66_2 : w63.cell? ⟨gb545, 2, none⟩ = some (.int .i64 0) := (blk_cell BK545.out 2).trans rfl; have hcz66_3 : w63.cell? ⟨gb545, 3, none⟩ = some (.int .i64 0) := (blk_cell BK545.out 3).trans rfl; have hcz66_4 : w63.cell? ⟨gb545, 4, none⟩ = some (.int .i64 0) := (blk_cell BK545.out 4).trans rfl; have hcz66_5 : w63.cell? ⟨gb545, 5, none⟩ = some (.int .i64 0) := (blk_cell BK545.out 5).trans rfl; have hcz66_6 : w63.cell? ⟨gb545, 6, none⟩ = some (.int .u32 0) := (blk_cell BK545.out 6).trans rfl; have hcz66_7 : w63.cell? ⟨gb545, 7, none⟩ = some (.int .u32 0) := (blk_cell BK545.out 7).trans rfl; have hcz66_8 : w63.cell? ⟨gb545, 8, none⟩ = some (.string (⟨#[]⟩ : ByteArray)) := (blk_cell BK545.out 8).trans rfl; have hfz66_0 := blk_frozen BK545.out 0; have hfz66_1 := blk_frozen BK545.out 1; have hfz66_2 := blk_frozen BK545.out 2; have hfz66_3 := blk_frozen BK545.out 3; have hfz66_4 := blk_frozen BK545.out 4; have hfz66_5 := blk_frozen BK545.out 5; have hfz66_6 := blk_frozen BK545.out 6; have hfz66_7 := blk_frozen BK545.out 7; have hfz66_8 := blk_frozen BK545.out 8) | ((with_reducible refine gate_callee (f := 21) rfl ?_); refine goesL_ (some 86) rfl rfl Try.func21 (by kernel_rfl) rfl #[.string x0_18] rfl (by (try simp only [List.map_toArray, List.map_cons, List.map_nil]); first | done | rfl | (simp only [List.length_drop, List.length_take]; rfl)) ?_; (with_reducible refine (ip4_Size.calls x0_18 t546 t547 t548 _ A49.out).mono ?_); rintro e w67 ⟨rfl, hb⟩; (try clear A49); refine ⟨_, rfl, ?_⟩; have n0_ := Aside0.mk (blk_below (g := gb502) (o := .cells #[.int .i64 a1_0, .int .i64 a1_1, .int .i64 a1_2, .int .i64 a1_3, .int .i64 a1_4, .int .i64 a1_5, .int .u32 a1_6, .int .u32 a1_7, .string a1_8] 24 (0, 0)) (by (with_reducible repeat (first | refine blk_drewN ?_ _ | refine blk_drew ?_ | refine blk_alloc ?_ _)); refine blk_far ?_ NB502_545.out _; (with_reducible repeat (first | refine blk_drewN ?_ _ | refine blk_drew ?_ | refine blk_alloc ?_ _)); refine blk_far ?_ NB502_545.out _; (with_reducible repeat (first | refine blk_drewN ?_ _ | refine blk_drew ?_ | refine blk_alloc ?_ _)); refine blk_far ?_ NB502_545.out _; (with_reducible repeat (first | refine blk_drewN ?_ _ | refine blk_drew ?_ | refine blk_alloc ?_ _)); refine blk_far ?_ NB502_545.out _; (with_reducible repeat (first | refine blk_drewN ?_ _ | refine blk_drew ?_ | refine blk_alloc ?_ _)); refine blk_far ?_ NB502_545.out _; (with_reducible repeat (first | refine blk_drewN ?_ _ | refine blk_drew ?_ | refine blk_alloc ?_ _)); refine blk_far ?_ NB502_545.out _; (with_reducible repeat (first | refine blk_drewN ?_ _ | refine blk_drew ?_ | refine blk_alloc ?_ _)); refine blk_far ?_ NB502_545.out _; (with_reducible repeat (first | refine blk_drewN ?_ _ | refine blk_drew ?_ | refine blk_alloc ?_ _)); refine blk_far ?_ NB502_545.out _; (with_reducible repeat (first | refine blk_drewN ?_ _ | refine blk_drew ?_ | refine blk_alloc ?_ _)); refine blk_far ?_ NB502_545.out _; (with_reducible repeat (first | refine blk_drewN ?_ _ | refine blk_drew ?_ | refine blk_alloc ?_ _)); exact BK502.out) hb); have n1_ := Aside0.mk (blk_below (g := gb533) (o := .cells #[.int .i64 t522, .int .i64 t523, .int .i64 t524, .int .i64 t525, .int .i64 t526, .int .i64 t527, .int .u32 t528, .int .u32 t529, .string t530] 24 (0, 0)) (by (with_reducible repeat (first | refine blk_drewN ?_ _ | refine blk_drew ?_ | refine blk_alloc ?_ _)); refine blk_far ?_ NB533_545.out _; (with_reducible repeat (first | refine blk_drewN ?_ _ | refine blk_drew ?_ | refine blk_alloc ?_ _)); refine blk_far ?_ NB533_545.out _; (with_reducible repeat (first | refine blk_drewN ?_ _ | refine blk_drew ?_ | refine blk_alloc ?_ _)); refine blk_far ?_ NB533_545.out _; (with_reducible repeat (first | refine blk_drewN ?_ _ | refine blk_drew ?_ | refine blk_alloc ?_ _)); refine blk_far ?_ NB533_545.out _; (with_reducible repeat (first | refine blk_drewN ?_ _ | refine blk_drew ?_ | refine blk_alloc ?_ _)); refine blk_far ?_ NB533_545.out _; (with_reducible repeat (first | refine blk_drewN ?_ _ | refine blk_drew ?_ | refine blk_alloc ?_ _)); refine blk_far ?_ NB533_545.out _; (with_reducible repeat (first | refine blk_drewN ?_ _ | refine blk_drew ?_ | refine blk_alloc ?_ _)); refine blk_far ?_ NB533_545.out _; (with_reducible repeat (first | refine blk_drewN ?_ _ | refine blk_drew ?_ | refine blk_alloc ?_ _)); refine blk_far ?_ NB533_545.out _; (with_reducible repeat (first | refine blk_drewN ?_ _ | refine blk_drew ?_ | refine blk_alloc ?_ _)); refine blk_far ?_ NB533_545.out _; (with_reducible repeat (first | refine blk_drewN ?_ _ | refine blk_drew ?_ | refine blk_alloc ?_ _)); exact BK533.out) hb); have n2_ := Aside0.mk (blk_below (g := gb545) (o := .cells #[.int .i64 t534, .int .i64 t535, .int .i64 t536, .int .i64 t537, .int .i64 t538, .int .i64 t539, .int .u32 t540, .int .u32 t541, .string t542] 31 (0, 0)) (by (with_reducible repeat (first | refine blk_drewN ?_ _ | refine blk_drew ?_ | refine blk_alloc ?_ _)); refine blk_put (cs := #[.int .i64 t534, .int .i64 t535, .int .i64 t536, .int .i64 t537, .int .i64 t538, .int .i64 t539, .int .u32 t540, .int .u32 t541, .string (⟨#[]⟩ : ByteArray)]) ?_ 8 _ rfl; (with_reducible repeat (first | refine blk_drewN ?_ _ | refine blk_drew ?_ | refine blk_alloc ?_ _)); refine blk_put (cs := #[.int .i64 t534, .int .i64 t535, .int .i64 t536, .int .i64 t537, .int .i64 t538, .int .i64 t539, .int .u32 t540, .int .u32 0, .string (⟨#[]⟩ : ByteArray)]) ?_ 7 _ rfl; (with_reducible repeat (first | refine blk_drewN ?_ _ | refine blk_drew ?_ | refine blk_alloc ?_ _)); refine blk_put (cs := #[.int .i64 t534, .int .i64 t535, .int .i64 t536, .int .i64 t537, .int .i64 t538, .int .i64 t539, .int .u32 0, .int .u32 0, .string (⟨#[]⟩ : ByteArray)]) ?_ 6 _ rfl; (with_reducible repeat (first | refine blk_drewN ?_ _ | refine blk_drew ?_ | refine blk_alloc ?_ _)); refine blk_put (cs := #[.int .i64 t534, .int .i64 t535, .int .i64 t536, .int .i64 t537, .int .i64 t538, .int .i64 0, .int .u32 0, .int .u32 0, .string (⟨#[]⟩ : ByteArray)]) ?_ 5 _ rfl; (with_reducible repeat (first | refine blk_drewN ?_ _ | refine blk_drew ?_ | refine blk_alloc ?_ _)); refine blk_put (cs := #[.int .i64 t534, .int .i64 t535, .int .i64 t536, .int .i64 t537, .int .i64 0, .int .i64 0, .int .u32 0, .int .u32 0, .string (⟨#[]⟩ : ByteArray)]) ?_ 4 _ rfl; (with_reducible repeat (first | refine blk_drewN ?_ _ | refine blk_drew ?_ | refine blk_alloc ?_ _)); refine blk_put (cs := #[.int .i64 t534, .int .i64 t535, .int .i64 t536, .int .i64 0, .int .i64 0, .int .i64 0, .int .u32 0, .int .u32 0, .string (⟨#[]⟩ : ByteArray)]) ?_ 3 _ rfl; (with_reducible repeat (first | refine blk_drewN ?_ _ | refine blk_drew ?_ | refine blk_alloc ?_ _)); refine blk_put (cs := #[.int .i64 t534, .int .i64 t535, .int .i64 0, .int .i64 0, .int .i64 0, .int .i64 0, .int .u32 0, .int .u32 0, .string (⟨#[]⟩ : ByteArray)]) ?_ 2 _ rfl; (with_reducible repeat (first | refine blk_drewN ?_ _ | refine blk_drew ?_ | refine blk_alloc ?_ _)); refine blk_put (cs := #[.int .i64 t534, .int .i64 0, .int .i64 0, .int .i64 0, .int .i64 0, .int .i64 0, .int .u32 0, .int .u32 0, .string (⟨#[]⟩ : ByteArray)]) ?_ 1 _ rfl; (with_reducible repeat (first | refine blk_drewN ?_ _ | refine blk_drew ?_ | refine blk_alloc ?_ _)); refine blk_put (cs := #[.int .i64 0, .int .i64 0, .int .i64 0, .int .i64 0, .int .i64 0, .int .i64 0, .int .u32 0, .int .u32 0, .string (⟨#[]⟩ : ByteArray)]) ?_ 0 _ rfl; (with_reducible repeat (first | refine blk_drewN ?_ _ | refine blk_drew ?_ | refine blk_alloc ?_ _)); exact BK545.out) hb); have n3_ := Aside0.mk (below_step (by repeat (first | (with_reducible first | exact HB.out | apply below_alloc | apply pw_below_drewN | apply below_drew1 | refine below_set ?_ GE502.out | refine below_set ?_ GE533.out | refine below_set ?_ GE545.out) | exact HB.out)) hb); clear BK502; clear BK533; clear BK545; clear HB; have BK502 := n0_; have BK533 := n1_; have BK545 := n2_; have HB := n3_; clear n0_ n1_ n2_ n3_; (try clear hb); (try clear hb2); (try clear hk); (try clear hi)) | ((with_reducible refine gate_callee (f := 22) rfl ?_); refine goesL_ (some 92) rfl rfl Try.func22 (by kernel_rfl) rfl #[.string x0_18] rfl (by (try simp only [List.map_toArray, List.map_cons, List.map_nil]); first | done | rfl | (simp only [List.length_drop, List.length_take]; rfl)) ?_; (with_reducible refine (weighbridgeref04_Sizes.calls x0_18 t549 t550 t551 _ A50.out).mono ?_); rintro e w' ⟨rfl, ⟨nd, rfl⟩⟩; refine ⟨_, rfl, ?_⟩))
                        (try (rw [drewN_self w67]; generalize hq_ : World.drewN w67 _ = w67; have n0_ : Aside0 (w67.heap[gb502]? = some (.cells #[.int .i64 a1_0, .int .i64 a1_1, .int .i64 a1_2, .int .i64 a1_3, .int .i64 a1_4, .int .i64 a1_5, .int .u32 a1_6, .int .u32 a1_7, .string a1_8] 24 (0, 0))) := ⟨by rw [← hq_]; exact (by (with_reducible repeat (first | refine blk_drewN ?_ _ | refine blk_drew ?_ | refine blk_alloc ?_ _)); exact BK502.out)⟩; have n1_ : Aside0 (w67.heap[gb533]? = some (.cells #[.int .i64 t522, .int .i64 t523, .int .i64 t524, .int .i64 t525, .int .i64 t526, .int .i64 t527, .int .u32 t528, .int .u32 t529, .string t530] 24 (0, 0))) := ⟨by rw [← hq_]; exact (by (with_reducible repeat (first | refine blk_drewN ?_ _ | refine blk_drew ?_ | refine blk_alloc ?_ _)); exact BK533.out)⟩; have n2_ : Aside0 (w67.heap[gb545]? = some (.cells #[.int .i64 t534, .int .i64 t535, .int .i64 t536, .int .i64 t537, .int .i64 t538, .int .i64 t539, .int .u32 t540, .int .u32 t541, .string t542] 31 (0, 0))) := ⟨by rw [← hq_]; exact (by (with_reducible repeat (first | refine blk_drewN ?_ _ | refine blk_drew ?_ | refine blk_alloc ?_ _)); exact BK545.out)⟩; have n3_ : Aside0 (Below w.heap.size w w67) := ⟨by rw [← hq_]; exact (by repeat (first | (with_reducible first | exact HB.out | apply below_alloc | apply pw_below_drewN | apply below_drew1 | refine below_set ?_ GE502.out | refine below_set ?_ GE533.out | refine below_set ?_ GE545.out) | exact HB.out))⟩; clear BK502 BK533 BK545 HB hq_; have BK502 := n0_; have BK533 := n1_; have BK545 := n2_; have HB := n3_; clear n0_ n1_ n2_ n3_))
                        have n0_ := Aside0.mk (blk_drew BK502.out)
                        have n1_ := Aside0.mk (blk_drew BK533.out)
                        have n2_ := Aside0.mk (blk_drew BK545.out)
                        have n3_ := Aside0.mk (below_drew1 HB.out)
                        clear BK502
                        clear BK533
                        clear BK545
                        clear HB
                        have BK502 := n0_
                        have BK533 := n1_
                        have BK545 := n2_
                        have HB := n3_
                        clear n0_ n1_ n2_ n3_
                        refine start_ (n := 34) (S := fun w' => w'.cell? ⟨gb533, 0, none⟩ = some (.int .i64 t522) ∧ w'.cell? ⟨gb533, 1, none⟩ = some (.int .i64 t523) ∧ w'.cell? ⟨gb533, 2, none⟩ = some (.int .i64 t524) ∧ w'.cell? ⟨gb533, 3, none⟩ = some (.int .i64 t525) ∧ w'.cell? ⟨gb533, 4, none⟩ = some (.int .i64 t526) ∧ w'.cell? ⟨gb533, 5, none⟩ = some (.int .i64 t527) ∧ w'.cell? ⟨gb533, 6, none⟩ = some (.int .u32 t528) ∧ w'.cell? ⟨gb533, 7, none⟩ = some (.int .u32 t529) ∧ w'.cell? ⟨gb533, 8, none⟩ = some (.string t530) ∧ w'.cell? ⟨gb545, 0, none⟩ = some (.int .i64 t534) ∧ w'.cell? ⟨gb545, 1, none⟩ = some (.int .i64 t535) ∧ w'.cell? ⟨gb545, 2, none⟩ = some (.int .i64 t536) ∧ w'.cell? ⟨gb545, 3, none⟩ = some (.int .i64 t537) ∧ w'.cell? ⟨gb545, 4, none⟩ = some (.int .i64 t538) ∧ w'.cell? ⟨gb545, 5, none⟩ = some (.int .i64 t539) ∧ w'.cell? ⟨gb545, 6, none⟩ = some (.int .u32 t540) ∧ w'.cell? ⟨gb545, 7, none⟩ = some (.int .u32 t541) ∧ w'.cell? ⟨gb545, 8, none⟩ = some (.string t542)) (ds := []) #[false, false, false, false, false, false, false, false, false, false, false, false, false, false, false, false, false, false, false, false, false, false, false, false, false, false, false, false, false, false, false, false, false, false] (by kernel_rfl) rfl rfl ⟨(blk_cell BK533.out 0).trans rfl, (blk_cell BK533.out 1).trans rfl, (blk_cell BK533.out 2).trans rfl, (blk_cell BK533.out 3).trans rfl, (blk_cell BK533.out 4).trans rfl, (blk_cell BK533.out 5).trans rfl, (blk_cell BK533.out 6).trans rfl, (blk_cell BK533.out 7).trans rfl, (blk_cell BK533.out 8).trans rfl, (blk_cell BK545.out 0).trans rfl, (blk_cell BK545.out 1).trans rfl, (blk_cell BK545.out 2).trans rfl, (blk_cell BK545.out 3).trans rfl, (blk_cell BK545.out 4).trans rfl, (blk_cell BK545.out 5).trans rfl, (blk_cell BK545.out 6).trans rfl, (blk_cell BK545.out 7).trans rfl, (blk_cell BK545.out 8).trans rfl⟩ (fun hHeld => ?_); refine with_tabW weighbridgelaw04_Ip4Parses.tab15 weighbridgelaw04_Ip4Parses.bits15 (fun HT_ HW_ => ?_)
                        generalize w67.drew = w68 at BK502 BK533 BK545 HB hHeld ⊢
                        refine pure_ (i := 0) (N := some 96) (v := ?_) (a' := ?_) #[true, false, false, false, false, false, false, false, false, false, false, false, false, false, false, false, false, false, false, false, false, false, false, false, false, false, false, false, false, false, false, false, false, false] rfl rfl (any_of HT_.out (by kernel_rfl)) (fun _ _ _ h => h) (Or.inl ⟨by rfl, ?_⟩) ?_ ?_
                        rotate_left
                        · intro w'
                          go_simp
                          with_reducible rfl
                        rotate_left
                        · simp only [Act.put, List.setIfInBounds_toArray, List.set_cons_zero, List.set_cons_succ, i64_w, i32_w]
                          rfl
                        refine pure_ (i := 1) (N := some 97) (v := ?_) (a' := ?_) #[true, true, false, false, false, false, false, false, false, false, false, false, false, false, false, false, false, false, false, false, false, false, false, false, false, false, false, false, false, false, false, false, false, false] rfl rfl (any_of HT_.out (by kernel_rfl)) (fun _ _ _ h => h) (Or.inl ⟨by rfl, ?_⟩) ?_ ?_
                        rotate_left
                        · intro w'
                          go_simp
                          with_reducible rfl
                        rotate_left
                        · simp only [Act.put, List.setIfInBounds_toArray, List.set_cons_zero, List.set_cons_succ, i64_w, i32_w]
                          rfl
                        refine take_ (i := 2) (N := some 98) (v := ?_) (a' := ?_) #[true, true, true, false, false, false, false, false, false, false, false, false, false, false, false, false, false, false, false, false, false, false, false, false, false, false, false, false, false, false, false, false, false, false] rfl rfl (take_ofW HT_.out HW_.out (by kernel_rfl)) (fun _ _ _ h => h) (Or.inl ⟨by rfl, ?_⟩) hHeld ?_ ?_
                        rotate_left
                        · rintro w' ⟨s0, s1, s2, s3, s4, s5, s6, s7, s8, s9, s10, s11, s12, s13, s14, s15, s16, s17⟩
                          go_simp
                          with_reducible rfl
                        rotate_left
                        · simp only [Act.put, List.setIfInBounds_toArray, List.set_cons_zero, List.set_cons_succ, i64_w, i32_w]
                          rfl
                        refine take_ (i := 4) (N := some 100) (v := ?_) (a' := ?_) #[true, true, true, false, true, false, false, false, false, false, false, false, false, false, false, false, false, false, false, false, false, false, false, false, false, false, false, false, false, false, false, false, false, false] rfl rfl (take_ofW HT_.out HW_.out (by kernel_rfl)) (fun _ _ _ h => h) (Or.inl ⟨by rfl, ?_⟩) hHeld ?_ ?_
                        rotate_left
                        · rintro w' ⟨s0, s1, s2, s3, s4, s5, s6, s7, s8, s9, s10, s11, s12, s13, s14, s15, s16, s17⟩
                          go_simp
                          with_reducible rfl
                        rotate_left
                        · simp only [Act.put, List.setIfInBounds_toArray, List.set_cons_zero, List.set_cons_succ, i64_w, i32_w]
                          rfl
                        refine one_ (i := 3) (N := some 99) #[true, true, true, true, true, false, false, false, false, false, false, false, false, false, false, false, false, false, false, false, false, false, false, false, false, false, false, false, false, false, false, false, false, false] rfl rfl (one_of HT_.out (by kernel_rfl)) (by decide) (fun K hK => ?_)
                        refine goes_ Try.func13 (by kernel_rfl) rfl #[.agg #[.int .i64 t522, .int .i64 t523, .int .i64 t524, .int .i64 t525, .int .i64 t526, .int .i64 t527, .int .u32 t528, .int .u32 t529, .string t530]] (by rfl) rfl rfl (by (try simp only [List.map_toArray, List.map_cons, List.map_nil]); first | done | rfl | (simp only [List.length_drop, List.length_take]; rfl)) ?_
                        with_reducible refine (weighbridgelaw04_ref.calls t522 t523 t524 t525 t526 t527 t528 t529 t530 t552 t553 t554 t555 t556 t557 t558 t559 t560 _ A52.out).mono ?_
                        rintro e w69 ⟨rfl, hb⟩
                        refine ⟨_, rfl, ?_⟩
                        have n0_ := Aside0.mk (blk_below (g := gb502) (o := .cells #[.int .i64 a1_0, .int .i64 a1_1, .int .i64 a1_2, .int .i64 a1_3, .int .i64 a1_4, .int .i64 a1_5, .int .u32 a1_6, .int .u32 a1_7, .string a1_8] 24 (0, 0)) (by (with_reducible repeat (first | refine blk_drewN ?_ _ | refine blk_drew ?_ | refine blk_alloc ?_ _)); exact BK502.out) hb)
                        have n1_ := Aside0.mk (blk_below (g := gb533) (o := .cells #[.int .i64 t522, .int .i64 t523, .int .i64 t524, .int .i64 t525, .int .i64 t526, .int .i64 t527, .int .u32 t528, .int .u32 t529, .string t530] 24 (0, 0)) (by (with_reducible repeat (first | refine blk_drewN ?_ _ | refine blk_drew ?_ | refine blk_alloc ?_ _)); exact BK533.out) hb)
                        have n2_ := Aside0.mk (blk_below (g := gb545) (o := .cells #[.int .i64 t534, .int .i64 t535, .int .i64 t536, .int .i64 t537, .int .i64 t538, .int .i64 t539, .int .u32 t540, .int .u32 t541, .string t542] 31 (0, 0)) (by (with_reducible repeat (first | refine blk_drewN ?_ _ | refine blk_drew ?_ | refine blk_alloc ?_ _)); exact BK545.out) hb)
                        have n3_ := Aside0.mk (below_step (by repeat (first | (with_reducible first | exact HB.out | apply below_alloc | apply pw_below_drewN | apply below_drew1 | refine below_set ?_ GE502.out | refine below_set ?_ GE533.out | refine below_set ?_ GE545.out) | exact HB.out)) hb)
                        clear BK502
                        clear BK533
                        clear BK545
                        clear HB
                        have BK502 := n0_
                        have BK533 := n1_
                        have BK545 := n2_
                        have HB := n3_
                        clear n0_ n1_ n2_ n3_
                        (try clear hb)
                        (try clear hb2)
                        (try clear hk)
                        (try clear hi)
                        refine hK.out _ _ ⟨(blk_cell BK533.out 0).trans rfl, (blk_cell BK533.out 1).trans rfl, (blk_cell BK533.out 2).trans rfl, (blk_cell BK533.out 3).trans rfl, (blk_cell BK533.out 4).trans rfl, (blk_cell BK533.out 5).trans rfl, (blk_cell BK533.out 6).trans rfl, (blk_cell BK533.out 7).trans rfl, (blk_cell BK533.out 8).trans rfl, (blk_cell BK545.out 0).trans rfl, (blk_cell BK545.out 1).trans rfl, (blk_cell BK545.out 2).trans rfl, (blk_cell BK545.out 3).trans rfl, (blk_cell BK545.out 4).trans rfl, (blk_cell BK545.out 5).trans rfl, (blk_cell BK545.out 6).trans rfl, (blk_cell BK545.out 7).trans rfl, (blk_cell BK545.out 8).trans rfl⟩ (fun hHeld => ?_)
                        clear hK K
                        refine norm_ (a' := ?_) ?_ ?_
                        rotate_left
                        · show Act.put _ (some 99) _ = _
                          simp only [Act.put, List.setIfInBounds_toArray, List.set_cons_zero, List.set_cons_succ, i64_w, i32_w]
                          rfl
                        refine pure_ (i := 5) (N := some 101) (v := ?_) (a' := ?_) #[true, true, true, true, true, true, false, false, false, false, false, false, false, false, false, false, false, false, false, false, false, false, false, false, false, false, false, false, false, false, false, false, false, false] rfl rfl (any_of HT_.out (by kernel_rfl)) (fun _ _ _ h => h) (Or.inl ⟨by rfl, ?_⟩) ?_ ?_
                        rotate_left
                        · intro w'
                          go_simp
                          with_reducible rfl
                        rotate_left
                        · simp only [Act.put, List.setIfInBounds_toArray, List.set_cons_zero, List.set_cons_succ, i64_w, i32_w]
                          rfl
                        refine pure_ (i := 6) (N := some 102) (v := ?_) (a' := ?_) #[true, true, true, true, true, true, true, false, false, false, false, false, false, false, false, false, false, false, false, false, false, false, false, false, false, false, false, false, false, false, false, false, false, false] rfl rfl (any_of HT_.out (by kernel_rfl)) (fun _ _ _ h => h) (Or.inl ⟨by rfl, ?_⟩) ?_ ?_
                        rotate_left
                        · intro w'
                          go_simp
                          with_reducible rfl
                        rotate_left
                        · simp only [Act.put, List.setIfInBounds_toArray, List.set_cons_zero, List.set_cons_succ, i64_w, i32_w]
                          rfl
                        refine pure_ (i := 7) (N := some 103) (v := ?_) (a' := ?_) #[true, true, true, true, true, true, true, true, false, false, false, false, false, false, false, false, false, false, false, false, false, false, false, false, false, false, false, false, false, false, false, false, false, false] rfl rfl (any_of HT_.out (by kernel_rfl)) (fun _ _ _ h => h) (Or.inl ⟨by rfl, ?_⟩) ?_ ?_
                        rotate_left
                        · intro w'
                          go_simp
                          with_reducible rfl
                        rotate_left
                        · simp only [Act.put, List.setIfInBounds_toArray, List.set_cons_zero, List.set_cons_succ, i64_w, i32_w]
                          rfl
                        refine pure_ (i := 8) (N := some 104) (v := ?_) (a' := ?_) #[true, true, true, true, true, true, true, true, true, false, false, false, false, false, false, false, false, false, false, false, false, false, false, false, false, false, false, false, false, false, false, false, false, false] rfl rfl (any_of HT_.out (by kernel_rfl)) (fun _ _ _ h => h) (Or.inl ⟨by rfl, ?_⟩) ?_ ?_
                        rotate_left
                        · intro w'
                          go_simp
                          with_reducible rfl
                        rotate_left
                        · simp only [Act.put, List.setIfInBounds_toArray, List.set_cons_zero, List.set_cons_succ, i64_w, i32_w]
                          rfl
                        refine pure_ (i := 9) (N := some 105) (v := ?_) (a' := ?_) #[true, true, true, true, true, true, true, true, true, true, false, false, false, false, false, false, false, false, false, false, false, false, false, false, false, false, false, false, false, false, false, false, false, false] rfl rfl (any_of HT_.out (by kernel_rfl)) (fun _ _ _ h => h) (Or.inl ⟨by rfl, ?_⟩) ?_ ?_
                        rotate_left
                        · intro w'
                          go_simp
                          with_reducible rfl
                        rotate_left
                        · simp only [Act.put, List.setIfInBounds_toArray, List.set_cons_zero, List.set_cons_succ, i64_w, i32_w]
                          rfl
                        refine pure_ (i := 10) (N := some 106) (v := ?_) (a' := ?_) #[true, true, true, true, true, true, true, true, true, true, true, false, false, false, false, false, false, false, false, false, false, false, false, false, false, false, false, false, false, false, false, false, false, false] rfl rfl (any_of HT_.out (by kernel_rfl)) (fun _ _ _ h => h) (Or.inl ⟨by rfl, ?_⟩) ?_ ?_
                        rotate_left
                        · intro w'
                          go_simp
                          with_reducible rfl
                        rotate_left
                        · simp only [Act.put, List.setIfInBounds_toArray, List.set_cons_zero, List.set_cons_succ, i64_w, i32_w]
                          rfl
                        refine pure_ (i := 11) (N := some 107) (v := ?_) (a' := ?_) #[true, true, true, true, true, true, true, true, true, true, true, true, false, false, false, false, false, false, false, false, false, false, false, false, false, false, false, false, false, false, false, false, false, false] rfl rfl (any_of HT_.out (by kernel_rfl)) (fun _ _ _ h => h) (Or.inl ⟨by rfl, ?_⟩) ?_ ?_
                        rotate_left
                        · intro w'
                          go_simp
                          with_reducible rfl
                        rotate_left
                        · simp only [Act.put, List.setIfInBounds_toArray, List.set_cons_zero, List.set_cons_succ, i64_w, i32_w]
                          rfl
                        refine pure_ (i := 12) (N := some 108) (v := ?_) (a' := ?_) #[true, true, true, true, true, true, true, true, true, true, true, true, true, false, false, false, false, false, false, false, false, false, false, false, false, false, false, false, false, false, false, false, false, false] rfl rfl (any_of HT_.out (by kernel_rfl)) (fun _ _ _ h => h) (Or.inl ⟨by rfl, ?_⟩) ?_ ?_
                        rotate_left
                        · intro w'
                          go_simp
                          with_reducible rfl
                        rotate_left
                        · simp only [Act.put, List.setIfInBounds_toArray, List.set_cons_zero, List.set_cons_succ, i64_w, i32_w]
                          rfl
                        refine pure_ (i := 13) (N := some 109) (v := ?_) (a' := ?_) #[true, true, true, true, true, true, true, true, true, true, true, true, true, true, false, false, false, false, false, false, false, false, false, false, false, false, false, false, false, false, false, false, false, false] rfl rfl (any_of HT_.out (by kernel_rfl)) (fun _ _ _ h => h) (Or.inl ⟨by rfl, ?_⟩) ?_ ?_
                        rotate_left
                        · intro w'
                          go_simp
                          with_reducible rfl
                        rotate_left
                        · simp only [Act.put, List.setIfInBounds_toArray, List.set_cons_zero, List.set_cons_succ, i64_w, i32_w]
                          rfl
                        refine pure_ (i := 14) (N := some 110) (v := ?_) (a' := ?_) #[true, true, true, true, true, true, true, true, true, true, true, true, true, true, true, false, false, false, false, false, false, false, false, false, false, false, false, false, false, false, false, false, false, false] rfl rfl (any_of HT_.out (by kernel_rfl)) (fun _ _ _ h => h) (Or.inl ⟨by rfl, ?_⟩) ?_ ?_
                        rotate_left
                        · intro w'
                          go_simp
                          with_reducible rfl
                        rotate_left
                        · simp only [Act.put, List.setIfInBounds_toArray, List.set_cons_zero, List.set_cons_succ, i64_w, i32_w]
                          rfl
                        refine pure_ (i := 15) (N := some 111) (v := ?_) (a' := ?_) #[true, true, true, true, true, true, true, true, true, true, true, true, true, true, true, true, false, false, false, false, false, false, false, false, false, false, false, false, false, false, false, false, false, false] rfl rfl (any_of HT_.out (by kernel_rfl)) (fun _ _ _ h => h) (Or.inl ⟨by rfl, ?_⟩) ?_ ?_
                        rotate_left
                        · intro w'
                          go_simp
                          with_reducible rfl
                        rotate_left
                        · simp only [Act.put, List.setIfInBounds_toArray, List.set_cons_zero, List.set_cons_succ, i64_w, i32_w]
                          rfl
                        refine pure_ (i := 16) (N := some 112) (v := ?_) (a' := ?_) #[true, true, true, true, true, true, true, true, true, true, true, true, true, true, true, true, true, false, false, false, false, false, false, false, false, false, false, false, false, false, false, false, false, false] rfl rfl (any_of HT_.out (by kernel_rfl)) (fun _ _ _ h => h) (Or.inl ⟨by rfl, ?_⟩) ?_ ?_
                        rotate_left
                        · intro w'
                          go_simp
                          with_reducible rfl
                        rotate_left
                        · simp only [Act.put, List.setIfInBounds_toArray, List.set_cons_zero, List.set_cons_succ, i64_w, i32_w]
                          rfl
                        refine pure_ (i := 17) (N := some 113) (v := ?_) (a' := ?_) #[true, true, true, true, true, true, true, true, true, true, true, true, true, true, true, true, true, true, false, false, false, false, false, false, false, false, false, false, false, false, false, false, false, false] rfl rfl (any_of HT_.out (by kernel_rfl)) (fun _ _ _ h => h) (Or.inl ⟨by rfl, ?_⟩) ?_ ?_
                        rotate_left
                        · intro w'
                          go_simp
                          with_reducible rfl
                        rotate_left
                        · simp only [Act.put, List.setIfInBounds_toArray, List.set_cons_zero, List.set_cons_succ, i64_w, i32_w]
                          rfl
                        refine pure_ (i := 18) (N := some 114) (v := ?_) (a' := ?_) #[true, true, true, true, true, true, true, true, true, true, true, true, true, true, true, true, true, true, true, false, false, false, false, false, false, false, false, false, false, false, false, false, false, false] rfl rfl (any_of HT_.out (by kernel_rfl)) (fun _ _ _ h => h) (Or.inl ⟨by rfl, ?_⟩) ?_ ?_
                        rotate_left
                        · intro w'
                          go_simp
                          with_reducible rfl
                        rotate_left
                        · simp only [Act.put, List.setIfInBounds_toArray, List.set_cons_zero, List.set_cons_succ, i64_w, i32_w]
                          rfl
                        refine pure_ (i := 19) (N := some 115) (v := ?_) (a' := ?_) #[true, true, true, true, true, true, true, true, true, true, true, true, true, true, true, true, true, true, true, true, false, false, false, false, false, false, false, false, false, false, false, false, false, false] rfl rfl (any_of HT_.out (by kernel_rfl)) (fun _ _ _ h => h) (Or.inl ⟨by rfl, ?_⟩) ?_ ?_
                        rotate_left
                        · intro w'
                          go_simp
                          with_reducible rfl
                        rotate_left
                        · simp only [Act.put, List.setIfInBounds_toArray, List.set_cons_zero, List.set_cons_succ, i64_w, i32_w]
                          rfl
                        refine pure_ (i := 20) (N := some 116) (v := ?_) (a' := ?_) #[true, true, true, true, true, true, true, true, true, true, true, true, true, true, true, true, true, true, true, true, true, false, false, false, false, false, false, false, false, false, false, false, false, false] rfl rfl (any_of HT_.out (by kernel_rfl)) (fun _ _ _ h => h) (Or.inl ⟨by rfl, ?_⟩) ?_ ?_
                        rotate_left
                        · intro w'
                          go_simp
                          with_reducible rfl
                        rotate_left
                        · simp only [Act.put, List.setIfInBounds_toArray, List.set_cons_zero, List.set_cons_succ, i64_w, i32_w]
                          rfl
                        refine pure_ (i := 21) (N := some 117) (v := ?_) (a' := ?_) #[true, true, true, true, true, true, true, true, true, true, true, true, true, true, true, true, true, true, true, true, true, true, false, false, false, false, false, false, false, false, false, false, false, false] rfl rfl (any_of HT_.out (by kernel_rfl)) (fun _ _ _ h => h) (Or.inl ⟨by rfl, ?_⟩) ?_ ?_
                        rotate_left
                        · intro w'
                          go_simp
                          with_reducible rfl
                        rotate_left
                        · simp only [Act.put, List.setIfInBounds_toArray, List.set_cons_zero, List.set_cons_succ, i64_w, i32_w]
                          rfl
                        refine pure_ (i := 22) (N := some 118) (v := ?_) (a' := ?_) #[true, true, true, true, true, true, true, true, true, true, true, true, true, true, true, true, true, true, true, true, true, true, true, false, false, false, false, false, false, false, false, false, false, false] rfl rfl (any_of HT_.out (by kernel_rfl)) (fun _ _ _ h => h) (Or.inl ⟨by rfl, ?_⟩) ?_ ?_
                        rotate_left
                        · intro w'
                          go_simp
                          with_reducible rfl
                        rotate_left
                        · simp only [Act.put, List.setIfInBounds_toArray, List.set_cons_zero, List.set_cons_succ, i64_w, i32_w]
                          rfl
                        refine pure_ (i := 23) (N := some 119) (v := ?_) (a' := ?_) #[true, true, true, true, true, true, true, true, true, true, true, true, true, true, true, true, true, true, true, true, true, true, true, true, false, false, false, false, false, false, false, false, false, false] rfl rfl (any_of HT_.out (by kernel_rfl)) (fun _ _ _ h => h) (Or.inl ⟨by rfl, ?_⟩) ?_ ?_
                        rotate_left
                        · intro w'
                          go_simp
                          with_reducible rfl
                        rotate_left
                        · simp only [Act.put, List.setIfInBounds_toArray, List.set_cons_zero, List.set_cons_succ, i64_w, i32_w]
                          rfl
                        refine pure_ (i := 24) (N := some 120) (v := ?_) (a' := ?_) #[true, true, true, true, true, true, true, true, true, true, true, true, true, true, true, true, true, true, true, true, true, true, true, true, true, false, false, false, false, false, false, false, false, false] rfl rfl (any_of HT_.out (by kernel_rfl)) (fun _ _ _ h => h) (Or.inl ⟨by rfl, ?_⟩) ?_ ?_
                        rotate_left
                        · intro w'
                          go_simp
                          with_reducible rfl
                        rotate_left
                        · simp only [Act.put, List.setIfInBounds_toArray, List.set_cons_zero, List.set_cons_succ, i64_w, i32_w]
                          rfl
                        refine pure_ (i := 25) (N := some 121) (v := ?_) (a' := ?_) #[true, true, true, true, true, true, true, true, true, true, true, true, true, true, true, true, true, true, true, true, true, true, true, true, true, true, false, false, false, false, false, false, false, false] rfl rfl (any_of HT_.out (by kernel_rfl)) (fun _ _ _ h => h) (Or.inl ⟨by rfl, ?_⟩) ?_ ?_
                        rotate_left
                        · intro w'
                          go_simp
                          with_reducible rfl
                        rotate_left
                        · simp only [Act.put, List.setIfInBounds_toArray, List.set_cons_zero, List.set_cons_succ, i64_w, i32_w]
                          rfl
                        refine pure_ (i := 26) (N := some 122) (v := ?_) (a' := ?_) #[true, true, true, true, true, true, true, true, true, true, true, true, true, true, true, true, true, true, true, true, true, true, true, true, true, true, true, false, false, false, false, false, false, false] rfl rfl (any_of HT_.out (by kernel_rfl)) (fun _ _ _ h => h) (Or.inl ⟨by rfl, ?_⟩) ?_ ?_
                        rotate_left
                        · intro w'
                          go_simp
                          with_reducible rfl
                        rotate_left
                        · simp only [Act.put, List.setIfInBounds_toArray, List.set_cons_zero, List.set_cons_succ, i64_w, i32_w]
                          rfl
                        refine pure_ (i := 27) (N := some 123) (v := ?_) (a' := ?_) #[true, true, true, true, true, true, true, true, true, true, true, true, true, true, true, true, true, true, true, true, true, true, true, true, true, true, true, true, false, false, false, false, false, false] rfl rfl (any_of HT_.out (by kernel_rfl)) (fun _ _ _ h => h) (Or.inl ⟨by rfl, ?_⟩) ?_ ?_
                        rotate_left
                        · intro w'
                          go_simp
                          with_reducible rfl
                        rotate_left
                        · simp only [Act.put, List.setIfInBounds_toArray, List.set_cons_zero, List.set_cons_succ, i64_w, i32_w]
                          rfl
                        refine pure_ (i := 28) (N := some 124) (v := ?_) (a' := ?_) #[true, true, true, true, true, true, true, true, true, true, true, true, true, true, true, true, true, true, true, true, true, true, true, true, true, true, true, true, true, false, false, false, false, false] rfl rfl (any_of HT_.out (by kernel_rfl)) (fun _ _ _ h => h) (Or.inl ⟨by rfl, ?_⟩) ?_ ?_
                        rotate_left
                        · intro w'
                          go_simp
                          with_reducible rfl
                        rotate_left
                        · simp only [Act.put, List.setIfInBounds_toArray, List.set_cons_zero, List.set_cons_succ, i64_w, i32_w]
                          rfl
                        refine pure_ (i := 29) (N := some 125) (v := ?_) (a' := ?_) #[true, true, true, true, true, true, true, true, true, true, true, true, true, true, true, true, true, true, true, true, true, true, true, true, true, true, true, true, true, true, false, false, false, false] rfl rfl (any_of HT_.out (by kernel_rfl)) (fun _ _ _ h => h) (Or.inl ⟨by rfl, ?_⟩) ?_ ?_
                        rotate_left
                        · intro w'
                          go_simp
                          with_reducible rfl
                        rotate_left
                        · simp only [Act.put, List.setIfInBounds_toArray, List.set_cons_zero, List.set_cons_succ, i64_w, i32_w]
                          rfl
                        refine pure_ (i := 30) (N := some 126) (v := ?_) (a' := ?_) #[true, true, true, true, true, true, true, true, true, true, true, true, true, true, true, true, true, true, true, true, true, true, true, true, true, true, true, true, true, true, true, false, false, false] rfl rfl (any_of HT_.out (by kernel_rfl)) (fun _ _ _ h => h) (Or.inl ⟨by rfl, ?_⟩) ?_ ?_
                        rotate_left
                        · intro w'
                          go_simp
                          with_reducible rfl
                        rotate_left
                        · simp only [Act.put, List.setIfInBounds_toArray, List.set_cons_zero, List.set_cons_succ, i64_w, i32_w]
                          rfl
                        refine pure_ (i := 31) (N := some 127) (v := ?_) (a' := ?_) #[true, true, true, true, true, true, true, true, true, true, true, true, true, true, true, true, true, true, true, true, true, true, true, true, true, true, true, true, true, true, true, true, false, false] rfl rfl (any_of HT_.out (by kernel_rfl)) (fun _ _ _ h => h) (Or.inl ⟨by rfl, ?_⟩) ?_ ?_
                        rotate_left
                        · intro w'
                          go_simp
                          with_reducible rfl
                        rotate_left
                        · simp only [Act.put, List.setIfInBounds_toArray, List.set_cons_zero, List.set_cons_succ, i64_w, i32_w]
                          rfl
                        refine pure_ (i := 32) (N := some 128) (v := ?_) (a' := ?_) #[true, true, true, true, true, true, true, true, true, true, true, true, true, true, true, true, true, true, true, true, true, true, true, true, true, true, true, true, true, true, true, true, true, false] rfl rfl (any_of HT_.out (by kernel_rfl)) (fun _ _ _ h => h) (Or.inl ⟨by rfl, ?_⟩) ?_ ?_
                        rotate_left
                        · intro w'
                          go_simp
                          with_reducible rfl
                        rotate_left
                        · simp only [Act.put, List.setIfInBounds_toArray, List.set_cons_zero, List.set_cons_succ, i64_w, i32_w]
                          rfl
                        refine pure_ (i := 33) (N := some 14) (v := ?_) (a' := ?_) #[true, true, true, true, true, true, true, true, true, true, true, true, true, true, true, true, true, true, true, true, true, true, true, true, true, true, true, true, true, true, true, true, true, true] rfl rfl (any_of HT_.out (by kernel_rfl)) (fun _ _ _ h => h) (Or.inl ⟨by rfl, ?_⟩) ?_ ?_
                        rotate_left
                        · intro w'
                          go_simp
                          with_reducible rfl
                        rotate_left
                        · simp only [Act.put, List.setIfInBounds_toArray, List.set_cons_zero, List.set_cons_succ, i64_w, i32_w]
                          rfl
                        refine done_ (done_of HT_.out (by kernel_rfl)) ?_
                        try go_wp2
                        go_ret
                        exact ⟨by first | rfl | (simp [errW_none, errW_some] <;> rfl) | (simp [*, errW_none, errW_some] <;> rfl), by repeat (first | (with_reducible first | exact HB.out | apply below_alloc | apply pw_below_drewN | apply below_drew1 | refine below_set ?_ GE502.out | refine below_set ?_ GE533.out | refine below_set ?_ GE545.out) | exact HB.out)⟩
                      · rw [if_neg c57] at H
                        have c57b0 : (t547 == t550) = false := beq_eq_false_iff_ne.mpr c57
                        have c57b1 : (t547 != t550) = true := bne_iff_ne.mpr c57
                        exact absurd ((Option.some.inj H).trans hr_) (by decide)
                    · rw [if_neg c56] at H
                      have c56b0 : (t546 == t549) = false := beq_eq_false_iff_ne.mpr c56
                      have c56b1 : (t546 != t549) = true := bne_iff_ne.mpr c56
                      exact absurd ((Option.some.inj H).trans hr_) (by decide)
                  · rw [if_neg c55] at H
                    have c55b0 : (t532 == t544) = false := beq_eq_false_iff_ne.mpr c55
                    have c55b1 : (t532 != t544) = true := bne_iff_ne.mpr c55
                    exact absurd ((Option.some.inj H).trans hr_) (by decide)
                · rw [if_neg c54] at H
                  have c54b0 : (t531.toList == t543.toList) = false := beq_eq_false_iff_ne.mpr c54
                  have c54b1 : (t531.toList != t543.toList) = true := bne_iff_ne.mpr c54
                  exact absurd ((Option.some.inj H).trans hr_) (by decide)
              · rw [if_neg c53] at H
                have c53b0 : (t552 == t534 && (t553 == t535 && (t554 == t536 && (t555 == t537 && (t556 == t538 && (t557 == t539 && (t558 == t540 && (t559 == t541 && (t560.toList == t542.toList))))))))) = false := by simpa using c53
                (try (have c53b1 : decide (t552 = t534 && (t553 == t535 && (t554 == t536 && (t555 == t537 && (t556 == t538 && (t557 == t539 && (t558 == t540 && (t559 == t541 && (t560.toList == t542.toList))))))))) = false := by simpa using c53))
                (try (have c53b2 : (t552 == t534 && (t553 == t535 && (t554 == t536 && (t555 == t537 && (t556 == t538 && (t557 == t539 && (t558 == t540 && (t559 == t541 && (t560.toList == t542.toList))))))))) = false := by simpa using c53))
                (try (have c53b3 : ¬ (t552 = t534 && (t553 == t535 && (t554 == t536 && (t555 == t537 && (t556 == t538 && (t557 == t539 && (t558 == t540 && (t559 == t541 && (t560.toList == t542.toList))))))))) := by simpa using c53))
                clear c53
                exact absurd ((Option.some.inj H).trans hr_) (by decide)
  · replace c9 := Bool.eq_false_iff.mpr c9
    subst c9
    have H1 : (some false) = some r := by rw [if_neg (show ¬ (false = true) by decide)] at H; exact H
    clear H
    have H := H1
    clear H1
    exact absurd ((Option.some.inj H).trans hr_) (by decide)

/-- THE ONE PURE STATEMENT of weighbridgelaw04_Ip4Parses: yours. -/
def weighbridgelaw04_Ip4Parses.Pure : Prop := ∀ (a0 : ByteArray) (a1_0 : Int) (a1_1 : Int) (a1_2 : Int) (a1_3 : Int) (a1_4 : Int) (a1_5 : Int) (a1_6 : Int) (a1_7 : Int) (a1_8 : ByteArray) (a2 : ByteArray) (a3 : Bool) (a4 : Int) (a5 : Int) (a6 : ByteArray), a0.size ≤ 140737488351232 → (Lit.int .i64 a1_0).wf = true → (Lit.int .i64 a1_1).wf = true → (Lit.int .i64 a1_2).wf = true → (Lit.int .i64 a1_3).wf = true → (Lit.int .i64 a1_4).wf = true → (Lit.int .i64 a1_5).wf = true → (Lit.int .u32 a1_6).wf = true → (Lit.int .u32 a1_7).wf = true → a1_8.size ≤ 140737488351232 → a2.size ≤ 140737488351232 → (Lit.int .i64 a4).wf = true → (Lit.int .u8 a5).wf = true → a6.size ≤ 140737488351232 → ∃ k, weighbridgelaw04_Ip4Parses.f k a0 a1_0 a1_1 a1_2 a1_3 a1_4 a1_5 a1_6 a1_7 a1_8 a2 a3 a4 a5 a6 = some true
theorem weighbridgelaw04_Ip4Parses.walk (P : weighbridgelaw04_Ip4Parses.Pure) (a0 : ByteArray) (a1_0 : Int) (a1_1 : Int) (a1_2 : Int) (a1_3 : Int) (a1_4 : Int) (a1_5 : Int) (a1_6 : Int) (a1_7 : Int) (a1_8 : ByteArray) (a2 : ByteArray) (a3 : Bool) (a4 : Int) (a5 : Int) (a6 : ByteArray) (w : World) (w0 : a0.size ≤ 140737488351232) (w1_0 : (Lit.int .i64 a1_0).wf = true) (w1_1 : (Lit.int .i64 a1_1).wf = true) (w1_2 : (Lit.int .i64 a1_2).wf = true) (w1_3 : (Lit.int .i64 a1_3).wf = true) (w1_4 : (Lit.int .i64 a1_4).wf = true) (w1_5 : (Lit.int .i64 a1_5).wf = true) (w1_6 : (Lit.int .u32 a1_6).wf = true) (w1_7 : (Lit.int .u32 a1_7).wf = true) (w1_8 : a1_8.size ≤ 140737488351232) (w2 : a2.size ≤ 140737488351232) (w4 : (Lit.int .i64 a4).wf = true) (w5 : (Lit.int .u8 a5).wf = true) (w6 : a6.size ≤ 140737488351232) :
    Calls Try.prog 9 #[.string a0, .agg #[.int .i64 a1_0, .int .i64 a1_1, .int .i64 a1_2, .int .i64 a1_3, .int .i64 a1_4, .int .i64 a1_5, .int .u32 a1_6, .int .u32 a1_7, .string a1_8], .string a2, .bool a3, .int .i64 a4, .int .u8 a5, .string a6] w fun e w' => e = .returned (.bool true) ∧ Below w.heap.size w w' := by
  obtain ⟨k, h⟩ := P a0 a1_0 a1_1 a1_2 a1_3 a1_4 a1_5 a1_6 a1_7 a1_8 a2 a3 a4 a5 a6 w0 w1_0 w1_1 w1_2 w1_3 w1_4 w1_5 w1_6 w1_7 w1_8 w2 w4 w5 w6
  refine (weighbridgelaw04_Ip4Parses.calls k a0 a1_0 a1_1 a1_2 a1_3 a1_4 a1_5 a1_6 a1_7 a1_8 a2 a3 a4 a5 a6 true w h rfl).mono ?_
  rintro e w' ⟨rfl, hd⟩
  exact ⟨rfl, hd⟩
def weighbridgelaw04_Ip4Parses.PureU : Prop := ∀ (a0 : ByteArray) (a1_0 : Int) (a1_1 : Int) (a1_2 : Int) (a1_3 : Int) (a1_4 : Int) (a1_5 : Int) (a1_6 : Int) (a1_7 : Int) (a1_8 : ByteArray) (a2 : ByteArray) (a3 : Bool) (a4 : Int) (a5 : Int) (a6 : ByteArray), a0.size ≤ 1048576 → (Lit.int .i64 a1_0).wf = true → (Lit.int .i64 a1_1).wf = true → (Lit.int .i64 a1_2).wf = true → (Lit.int .i64 a1_3).wf = true → (Lit.int .i64 a1_4).wf = true → (Lit.int .i64 a1_5).wf = true → (Lit.int .u32 a1_6).wf = true → (Lit.int .u32 a1_7).wf = true → a1_8.size ≤ 1048576 → a2.size ≤ 1048576 → (Lit.int .i64 a4).wf = true → (Lit.int .u8 a5).wf = true → a6.size ≤ 1048576 → ∃ k, weighbridgelaw04_Ip4Parses.f k a0 a1_0 a1_1 a1_2 a1_3 a1_4 a1_5 a1_6 a1_7 a1_8 a2 a3 a4 a5 a6 = some true
theorem weighbridgelaw04_Ip4Parses.walkU (P : weighbridgelaw04_Ip4Parses.PureU) (a0 : ByteArray) (a1_0 : Int) (a1_1 : Int) (a1_2 : Int) (a1_3 : Int) (a1_4 : Int) (a1_5 : Int) (a1_6 : Int) (a1_7 : Int) (a1_8 : ByteArray) (a2 : ByteArray) (a3 : Bool) (a4 : Int) (a5 : Int) (a6 : ByteArray) (w : World) (w0 : a0.size ≤ 1048576) (w1_0 : (Lit.int .i64 a1_0).wf = true) (w1_1 : (Lit.int .i64 a1_1).wf = true) (w1_2 : (Lit.int .i64 a1_2).wf = true) (w1_3 : (Lit.int .i64 a1_3).wf = true) (w1_4 : (Lit.int .i64 a1_4).wf = true) (w1_5 : (Lit.int .i64 a1_5).wf = true) (w1_6 : (Lit.int .u32 a1_6).wf = true) (w1_7 : (Lit.int .u32 a1_7).wf = true) (w1_8 : a1_8.size ≤ 1048576) (w2 : a2.size ≤ 1048576) (w4 : (Lit.int .i64 a4).wf = true) (w5 : (Lit.int .u8 a5).wf = true) (w6 : a6.size ≤ 1048576) :
    Calls Try.prog 9 #[.string a0, .agg #[.int .i64 a1_0, .int .i64 a1_1, .int .i64 a1_2, .int .i64 a1_3, .int .i64 a1_4, .int .i64 a1_5, .int .u32 a1_6, .int .u32 a1_7, .string a1_8], .string a2, .bool a3, .int .i64 a4, .int .u8 a5, .string a6] w fun e w' => e = .returned (.bool true) ∧ Below w.heap.size w w' := by
  obtain ⟨k, h⟩ := P a0 a1_0 a1_1 a1_2 a1_3 a1_4 a1_5 a1_6 a1_7 a1_8 a2 a3 a4 a5 a6 w0 w1_0 w1_1 w1_2 w1_3 w1_4 w1_5 w1_6 w1_7 w1_8 w2 w4 w5 w6
  refine (weighbridgelaw04_Ip4Parses.calls k a0 a1_0 a1_1 a1_2 a1_3 a1_4 a1_5 a1_6 a1_7 a1_8 a2 a3 a4 a5 a6 true w h rfl).mono ?_
  rintro e w' ⟨rfl, hd⟩
  exact ⟨rfl, hd⟩

end Go.Proofs.Ythdaldicdhpnoaa.Pr
