-- Written by a program of the session (wip/tools) out of the translation, over the kit's print; with pieces of the session's own.
import Derived.Test.YthdaldicdhpnoaaPr0
import Derived.Test.YthdaldicdhpnoaaPr3
import Derived.Test.YthdaldicdhpnoaaPr6
namespace Go.Proofs.Ythdaldicdhpnoaa.Pr
open Go.RowKit Go.Proofs.YthdaldicdhpnoaaW.PrintWords Go.Proofs.YthdaldicdhpnoaaW.PrintLast Go.Proofs.YthdaldicdhpnoaaW.PrintMore
attribute [local go_sem] max2_int min2_int max_two min_two max_three min_three max_four min_four   -- for this text's walks alone
set_option linter.unusedVariables false
set_option linter.unusedSimpArgs false
open Go.Proofs.Ythdaldicdhpnoaa.Sp
/-! ### weighbridgelaw04_Ip4Bit: function 5 -/
def weighbridgelaw04_Ip4Bit.j0 : Nat → Int → Bool → ByteArray → Int → Bool → Int → Int → Int → Int → Int → Int → Int → Int → ByteArray → Option (Bool)
  | 0, _, _, _, _, _, _, _, _, _, _, _, _, _, _ => none
  | k + 1, x2, x7, x8, x9, x33, x228000, x228001, x228002, x228003, x228004, x228005, x228006, x228007, x228008 => if x33 = true then (if x7 = true then (some (x9 != 0)) else (some false)) else (if x2 < 0 then (if (wrap64 (8 * (wrap64 (20 + (x228008.size : Int))))) = 0 then (none) else (if (Int.tmod (wrap64 (-(wrap64 (x2 + 1)))) (wrap64 (8 * (wrap64 (20 + (x228008.size : Int)))))) < 4 then (if x8.size ≤ 281474976710656 then ((some (numsOf x8 : List Int)).bind fun y231 => (if 0 ≤ (wrap64 (Int.tdiv (wrap64 ((Int.tmod (wrap64 (-(wrap64 (x2 + 1)))) (wrap64 (8 * (wrap64 (20 + (x228008.size : Int)))))) + 4)) 8)) then (if (wrap64 (Int.tdiv (wrap64 ((Int.tmod (wrap64 (-(wrap64 (x2 + 1)))) (wrap64 (8 * (wrap64 (20 + (x228008.size : Int)))))) + 4)) 8)) < (y231.length : Int) then (if 0 ≤ (Int.tmod (wrap64 ((Int.tmod (wrap64 (-(wrap64 (x2 + 1)))) (wrap64 (8 * (wrap64 (20 + (x228008.size : Int)))))) + 4)) 8) then ((ip4_Parse.f (strOfNums (y231.set ((wrap64 (Int.tdiv (wrap64 ((Int.tmod (wrap64 (-(wrap64 (x2 + 1)))) (wrap64 (8 * (wrap64 (20 + (x228008.size : Int)))))) + 4)) 8)) : Int).toNat (Go.bits .xor .u8 (rd y231 (wrap64 (Int.tdiv (wrap64 ((Int.tmod (wrap64 (-(wrap64 (x2 + 1)))) (wrap64 (8 * (wrap64 (20 + (x228008.size : Int)))))) + 4)) 8))) (shl .u8 1 (Int.tmod (wrap64 ((Int.tmod (wrap64 (-(wrap64 (x2 + 1)))) (wrap64 (8 * (wrap64 (20 + (x228008.size : Int)))))) + 4)) 8)))))).bind fun bt236 => (if x7 = true then (some (bt236.2.2.2.2.2.2.2.2.2.2 != 0)) else (some false))) else (none)) else (none)) else (none))) else (none)) else (if x8.size ≤ 281474976710656 then ((some (numsOf x8 : List Int)).bind fun y248 => (if 0 ≤ (wrap64 (Int.tdiv (Int.tmod (wrap64 (-(wrap64 (x2 + 1)))) (wrap64 (8 * (wrap64 (20 + (x228008.size : Int)))))) 8)) then (if (wrap64 (Int.tdiv (Int.tmod (wrap64 (-(wrap64 (x2 + 1)))) (wrap64 (8 * (wrap64 (20 + (x228008.size : Int)))))) 8)) < (y248.length : Int) then (if 0 ≤ (Int.tmod (Int.tmod (wrap64 (-(wrap64 (x2 + 1)))) (wrap64 (8 * (wrap64 (20 + (x228008.size : Int)))))) 8) then ((ip4_Parse.f (strOfNums (y248.set ((wrap64 (Int.tdiv (Int.tmod (wrap64 (-(wrap64 (x2 + 1)))) (wrap64 (8 * (wrap64 (20 + (x228008.size : Int)))))) 8)) : Int).toNat (Go.bits .xor .u8 (rd y248 (wrap64 (Int.tdiv (Int.tmod (wrap64 (-(wrap64 (x2 + 1)))) (wrap64 (8 * (wrap64 (20 + (x228008.size : Int)))))) 8))) (shl .u8 1 (Int.tmod (Int.tmod (wrap64 (-(wrap64 (x2 + 1)))) (wrap64 (8 * (wrap64 (20 + (x228008.size : Int)))))) 8)))))).bind fun bt253 => (if x7 = true then (some (bt253.2.2.2.2.2.2.2.2.2.2 != 0)) else (some false))) else (none)) else (none)) else (none))) else (none)))) else (if (wrap64 (8 * (wrap64 (20 + (x228008.size : Int))))) = 0 then (none) else (if (Int.tmod x2 (wrap64 (8 * (wrap64 (20 + (x228008.size : Int)))))) < 4 then (if x8.size ≤ 281474976710656 then ((some (numsOf x8 : List Int)).bind fun y265 => (if 0 ≤ (wrap64 (Int.tdiv (wrap64 ((Int.tmod x2 (wrap64 (8 * (wrap64 (20 + (x228008.size : Int)))))) + 4)) 8)) then (if (wrap64 (Int.tdiv (wrap64 ((Int.tmod x2 (wrap64 (8 * (wrap64 (20 + (x228008.size : Int)))))) + 4)) 8)) < (y265.length : Int) then (if 0 ≤ (Int.tmod (wrap64 ((Int.tmod x2 (wrap64 (8 * (wrap64 (20 + (x228008.size : Int)))))) + 4)) 8) then ((ip4_Parse.f (strOfNums (y265.set ((wrap64 (Int.tdiv (wrap64 ((Int.tmod x2 (wrap64 (8 * (wrap64 (20 + (x228008.size : Int)))))) + 4)) 8)) : Int).toNat (Go.bits .xor .u8 (rd y265 (wrap64 (Int.tdiv (wrap64 ((Int.tmod x2 (wrap64 (8 * (wrap64 (20 + (x228008.size : Int)))))) + 4)) 8))) (shl .u8 1 (Int.tmod (wrap64 ((Int.tmod x2 (wrap64 (8 * (wrap64 (20 + (x228008.size : Int)))))) + 4)) 8)))))).bind fun bt270 => (if x7 = true then (some (bt270.2.2.2.2.2.2.2.2.2.2 != 0)) else (some false))) else (none)) else (none)) else (none))) else (none)) else (if x8.size ≤ 281474976710656 then ((some (numsOf x8 : List Int)).bind fun y282 => (if 0 ≤ (wrap64 (Int.tdiv (Int.tmod x2 (wrap64 (8 * (wrap64 (20 + (x228008.size : Int)))))) 8)) then (if (wrap64 (Int.tdiv (Int.tmod x2 (wrap64 (8 * (wrap64 (20 + (x228008.size : Int)))))) 8)) < (y282.length : Int) then (if 0 ≤ (Int.tmod (Int.tmod x2 (wrap64 (8 * (wrap64 (20 + (x228008.size : Int)))))) 8) then ((ip4_Parse.f (strOfNums (y282.set ((wrap64 (Int.tdiv (Int.tmod x2 (wrap64 (8 * (wrap64 (20 + (x228008.size : Int)))))) 8)) : Int).toNat (Go.bits .xor .u8 (rd y282 (wrap64 (Int.tdiv (Int.tmod x2 (wrap64 (8 * (wrap64 (20 + (x228008.size : Int)))))) 8))) (shl .u8 1 (Int.tmod (Int.tmod x2 (wrap64 (8 * (wrap64 (20 + (x228008.size : Int)))))) 8)))))).bind fun bt287 => (if x7 = true then (some (bt287.2.2.2.2.2.2.2.2.2.2 != 0)) else (some false))) else (none)) else (none)) else (none))) else (none)))))
def weighbridgelaw04_Ip4Bit.f (k : Nat) (a0_0 : Int) (a0_1 : Int) (a0_2 : Int) (a0_3 : Int) (a0_4 : Int) (a0_5 : Int) (a0_6 : Int) (a0_7 : Int) (a0_8 : ByteArray) (a1 : ByteArray) (a2 : Int) : Option (Bool) := (weighbridgelaw04_examples.f).bind fun t228 => (if t228 = true then ((ip4_Build.f a0_0 a0_1 a0_2 a0_3 a0_4 a0_5 a0_6 a0_7 a0_8 a1).bind fun bt229 => (if bt229.2 = 0 then (weighbridgelaw04_Ip4Bit.j0 k a2 t228 bt229.1 bt229.2 (decide ((bt229.1.size : Int) < (wrap64 (20 + (a0_8.size : Int))))) a0_0 a0_1 a0_2 a0_3 a0_4 a0_5 a0_6 a0_7 a0_8) else (weighbridgelaw04_Ip4Bit.j0 k a2 t228 bt229.1 bt229.2 true a0_0 a0_1 a0_2 a0_3 a0_4 a0_5 a0_6 a0_7 a0_8))) else (some false))
theorem weighbridgelaw04_Ip4Bit.mono_l : ∀ k, (∀ y0 y1 y2 y3 y4 y5 y6 y7 y8 y9 y10 y11 y12 y13, LeO (weighbridgelaw04_Ip4Bit.j0 k y0 y1 y2 y3 y4 y5 y6 y7 y8 y9 y10 y11 y12 y13) (weighbridgelaw04_Ip4Bit.j0 (k + 1) y0 y1 y2 y3 y4 y5 y6 y7 y8 y9 y10 y11 y12 y13))
  | 0 => fun _ _ _ _ _ _ _ _ _ _ _ _ _ _ r h => by simp [weighbridgelaw04_Ip4Bit.j0] at h
  | k + 1 => by
    have ih0 := weighbridgelaw04_Ip4Bit.mono_l k
    · intro y0 y1 y2 y3 y4 y5 y6 y7 y8 y9 y10 y11 y12 y13
      unfold weighbridgelaw04_Ip4Bit.j0
      repeat' first
      | (with_reducible exact ih0 _ _ _ _ _ _ _ _ _ _ _ _ _ _)
      | (with_reducible exact LeO.refl _)
      | (with_reducible exact LeO.none _)
      | (with_reducible refine LeO.ite ?_ ?_)
      | (with_reducible refine LeO.bind ?_ (fun _ => ?_))
      | exact ih0 _ _ _ _ _ _ _ _ _ _ _ _ _ _
      | exact LeO.none _
      | refine LeO.ite ?_ ?_
      | refine LeO.bind ?_ (fun _ => ?_)
theorem weighbridgelaw04_Ip4Bit.mono : ∀ a0 a1 a2 a3 a4 a5 a6 a7 a8 a9 a10 k, LeO (weighbridgelaw04_Ip4Bit.f k a0 a1 a2 a3 a4 a5 a6 a7 a8 a9 a10) (weighbridgelaw04_Ip4Bit.f (k + 1) a0 a1 a2 a3 a4 a5 a6 a7 a8 a9 a10) := by
  intro a0 a1 a2 a3 a4 a5 a6 a7 a8 a9 a10 k
  have ih0 := weighbridgelaw04_Ip4Bit.mono_l k
  unfold weighbridgelaw04_Ip4Bit.f
  repeat' first
      | (with_reducible exact ih0 _ _ _ _ _ _ _ _ _ _ _ _ _ _)
      | (with_reducible exact LeO.refl _)
      | (with_reducible exact LeO.none _)
      | (with_reducible refine LeO.ite ?_ ?_)
      | (with_reducible refine LeO.bind ?_ (fun _ => ?_))
      | exact ih0 _ _ _ _ _ _ _ _ _ _ _ _ _ _
      | exact LeO.none _
      | refine LeO.ite ?_ ?_
      | refine LeO.bind ?_ (fun _ => ?_)
def weighbridgelaw04_Ip4Bit.T13 : Bool × List (List Nat × List Nat) := (true, [([], []), ([], []), ([1], [1]), ([], []), ([], []), ([4], [4]), ([3, 5], [3, 5]), ([6], [6]), ([], []), ([8], [8]), ([9], [9]), ([7, 10], [7, 10]), ([0, 2, 0, 1, 2, 3, 4, 5, 6, 7, 8, 9, 10, 11], [0, 2]), ([12, 11, 0, 1, 2, 3, 4, 5, 6, 7, 8, 9, 10, 11], [11, 12])])
def weighbridgelaw04_Ip4Bit.B13 : List Nat := [0, 0, 2, 0, 0, 16, 56, 120, 0, 256, 768, 2040, 4095, 8191]
theorem weighbridgelaw04_Ip4Bit.tab13 : rtab .any (opsOf Try.f5 13) = weighbridgelaw04_Ip4Bit.T13 := by kernel_rfl
theorem weighbridgelaw04_Ip4Bit.bits13 : waitsOk weighbridgelaw04_Ip4Bit.T13.2 weighbridgelaw04_Ip4Bit.B13 = true := by kernel_rfl
set_option maxHeartbeats 8000000 in
set_option maxRecDepth 100000 in
theorem weighbridgelaw04_Ip4Bit.calls (k : Nat) (a0_0 : Int) (a0_1 : Int) (a0_2 : Int) (a0_3 : Int) (a0_4 : Int) (a0_5 : Int) (a0_6 : Int) (a0_7 : Int) (a0_8 : ByteArray) (a1 : ByteArray) (a2 : Int) (r : Bool) (w : World) (h : weighbridgelaw04_Ip4Bit.f k a0_0 a0_1 a0_2 a0_3 a0_4 a0_5 a0_6 a0_7 a0_8 a1 a2 = some r) (hr_ : r = true) :
    Calls Try.prog 5 #[.agg #[.int .i64 a0_0, .int .i64 a0_1, .int .i64 a0_2, .int .i64 a0_3, .int .i64 a0_4, .int .i64 a0_5, .int .u32 a0_6, .int .u32 a0_7, .string a0_8], .string a1, .int .i64 a2] w fun e w' => e = .returned (.bool r) ∧ Below w.heap.size w w' := by
  have hu24 := Try.underlying24
  have HB := Aside0.mk (Below.refl w.heap.size w)
  have H : ((weighbridgelaw04_examples.f).bind fun t228 => (if t228 = true then ((ip4_Build.f a0_0 a0_1 a0_2 a0_3 a0_4 a0_5 a0_6 a0_7 a0_8 a1).bind fun bt229 => (if bt229.2 = 0 then (weighbridgelaw04_Ip4Bit.j0 k a2 t228 bt229.1 bt229.2 (decide ((bt229.1.size : Int) < (wrap64 (20 + (a0_8.size : Int))))) a0_0 a0_1 a0_2 a0_3 a0_4 a0_5 a0_6 a0_7 a0_8) else (weighbridgelaw04_Ip4Bit.j0 k a2 t228 bt229.1 bt229.2 true a0_0 a0_1 a0_2 a0_3 a0_4 a0_5 a0_6 a0_7 a0_8))) else (some false))) = some r := h
  clear h
  replace H := Option.bind_eq_some_iff.mp H
  obtain ⟨t228, A40, H⟩ := H
  replace H : (if t228 = true then ((ip4_Build.f a0_0 a0_1 a0_2 a0_3 a0_4 a0_5 a0_6 a0_7 a0_8 a1).bind fun bt229 => (if bt229.2 = 0 then (weighbridgelaw04_Ip4Bit.j0 k a2 t228 bt229.1 bt229.2 (decide ((bt229.1.size : Int) < (wrap64 (20 + (a0_8.size : Int))))) a0_0 a0_1 a0_2 a0_3 a0_4 a0_5 a0_6 a0_7 a0_8) else (weighbridgelaw04_Ip4Bit.j0 k a2 t228 bt229.1 bt229.2 true a0_0 a0_1 a0_2 a0_3 a0_4 a0_5 a0_6 a0_7 a0_8))) else (some false)) = some r := H
  have A4 := Aside0.mk A40
  clear A40
  by_cases c5 : t228 = true
  · subst c5
    have H1 : ((ip4_Build.f a0_0 a0_1 a0_2 a0_3 a0_4 a0_5 a0_6 a0_7 a0_8 a1).bind fun bt229 => (if bt229.2 = 0 then (weighbridgelaw04_Ip4Bit.j0 k a2 true bt229.1 bt229.2 (decide ((bt229.1.size : Int) < (wrap64 (20 + (a0_8.size : Int))))) a0_0 a0_1 a0_2 a0_3 a0_4 a0_5 a0_6 a0_7 a0_8) else (weighbridgelaw04_Ip4Bit.j0 k a2 true bt229.1 bt229.2 true a0_0 a0_1 a0_2 a0_3 a0_4 a0_5 a0_6 a0_7 a0_8))) = some r := by first | (rw [if_pos rfl] at H; exact H) | (rw [if_pos trivial] at H; exact H)
    clear H
    have H := H1
    clear H1
    replace H := Option.bind_eq_some_iff.mp H
    obtain ⟨⟨t229, t230⟩, A60, H⟩ := H
    replace H : (if t230 = 0 then (weighbridgelaw04_Ip4Bit.j0 k a2 true t229 t230 (decide ((t229.size : Int) < (wrap64 (20 + (a0_8.size : Int))))) a0_0 a0_1 a0_2 a0_3 a0_4 a0_5 a0_6 a0_7 a0_8) else (weighbridgelaw04_Ip4Bit.j0 k a2 true t229 t230 true a0_0 a0_1 a0_2 a0_3 a0_4 a0_5 a0_6 a0_7 a0_8)) = some r := H
    have A6 := Aside0.mk A60
    clear A60
    have HC7 := Aside0.mk H
    clear H
    go_enter Try.func5, Try.ntmps5
    go_upto_region 5 with (first | ((with_reducible refine gate_dst (N := 3) rfl ?_); (try (refine gate_guard (by rfl) ?_; dsimp only)); refine box_event ?hg (N := 3) ?hd (cs := #[.int .i64 a0_0, .int .i64 a0_1, .int .i64 a0_2, .int .i64 a0_3, .int .i64 a0_4, .int .i64 a0_5, .int .u32 a0_6, .int .u32 a0_7, .string a0_8]) (t := 24) ?hr ?_; (case hd => rfl); (case hg => rfl); (case hr => first | (go_simp; done) | (go_simp; rfl)); intro gb227 hg w8 hbox hb; have n0_ := Aside0.mk (below_step (by repeat (first | (with_reducible first | exact HB.out | apply below_alloc | apply pw_below_drewN | apply below_drew1) | exact HB.out)) hb); have n1_ := Aside0.mk (hbox); have n2_ := Aside0.mk ((by rw [hg]; exact (below_size (by repeat (first | (with_reducible first | exact HB.out | apply below_alloc | apply pw_below_drewN | apply below_drew1) | exact HB.out))) : w.heap.size ≤ gb227)); have n3_ := Aside0.mk ((by rw [hg]; exact (below_size (by repeat (first | (with_reducible first | exact HB.out | apply below_alloc | apply pw_below_drewN | apply below_drew1) | exact HB.out))) : w.heap.size ≤ gb227)); clear HB; have HB := n0_; have BK227 := n1_; have GW227 := n2_; have GE227 := n3_; clear n0_ n1_ n2_ n3_; clear hb hbox hg) | ((with_reducible refine gate_callee (f := 10) rfl ?_); refine goesL_ (some 14) rfl rfl Try.func10 (by kernel_rfl) rfl #[] rfl (by (try simp only [List.map_toArray, List.map_cons, List.map_nil]); first | done | rfl | (simp only [List.length_drop, List.length_take]; rfl)) ?_; (with_reducible refine (weighbridgelaw04_examples.calls  true _ A4.out).mono ?_); rintro e w9 ⟨rfl, hb⟩; refine ⟨_, rfl, ?_⟩; have n0_ := Aside0.mk (blk_below (g := gb227) (o := .cells #[.int .i64 a0_0, .int .i64 a0_1, .int .i64 a0_2, .int .i64 a0_3, .int .i64 a0_4, .int .i64 a0_5, .int .u32 a0_6, .int .u32 a0_7, .string a0_8] 24 (0, 0)) (by (with_reducible repeat (first | refine blk_drewN ?_ _ | refine blk_drew ?_ | refine blk_alloc ?_ _)); exact BK227.out) hb); have n1_ := Aside0.mk (below_step (by repeat (first | (with_reducible first | exact HB.out | apply below_alloc | apply pw_below_drewN | apply below_drew1 | refine below_set ?_ GE227.out) | exact HB.out)) hb); clear BK227; clear HB; have BK227 := n0_; have HB := n1_; clear n0_ n1_; (try clear hb); (try clear hb2); (try clear hk); (try clear hi); have hcz10_0 : w9.cell? ⟨gb227, 0, none⟩ = some (.int .i64 a0_0) := (blk_cell BK227.out 0).trans rfl; have hcz10_1 : w9.cell? ⟨gb227, 1, none⟩ = some (.int .i64 a0_1) := (blk_cell BK227.out 1).trans rfl; have hcz10_2 : w9.cell? ⟨gb227, 2, none⟩ = some (.int .i64 a0_2) := (blk_cell BK227.out 2).trans rfl; have hcz10_3 : w9.cell? ⟨gb227, 3, none⟩ = some (.int .i64 a0_3) := (blk_cell BK227.out 3).trans rfl; have hcz10_4 : w9.cell? ⟨gb227, 4, none⟩ = some (.int .i64 a0_4) := (blk_cell BK227.out 4).trans rfl; have hcz10_5 : w9.cell? ⟨gb227, 5, none⟩ = some (.int .i64 a0_5) := (blk_cell BK227.out 5).trans rfl; have hcz10_6 : w9.cell? ⟨gb227, 6, none⟩ = some (.int .u32 a0_6) := (blk_cell BK227.out 6).trans rfl; have hcz10_7 : w9.cell? ⟨gb227, 7, none⟩ = some (.int .u32 a0_7) := (blk_cell BK227.out 7).trans rfl; have hcz10_8 : w9.cell? ⟨gb227, 8, none⟩ = some (.string a0_8) := (blk_cell BK227.out 8).trans rfl; have hfz10_0 := blk_frozen BK227.out 0; have hfz10_1 := blk_frozen BK227.out 1; have hfz10_2 := blk_frozen BK227.out 2; have hfz10_3 := blk_frozen BK227.out 3; have hfz10_4 := blk_frozen BK227.out 4; have hfz10_5 := blk_frozen BK227.out 5; have hfz10_6 := blk_frozen BK227.out 6; have hfz10_7 := blk_frozen BK227.out 7; have hfz10_8 := blk_frozen BK227.out 8) | ((with_reducible refine gate_callee (f := 11) rfl ?_); refine goesL_ (some 20) rfl rfl Try.func11 (by kernel_rfl) rfl #[.agg #[.int .i64 a0_0, .int .i64 a0_1, .int .i64 a0_2, .int .i64 a0_3, .int .i64 a0_4, .int .i64 a0_5, .int .u32 a0_6, .int .u32 a0_7, .string a0_8], .string a1] rfl (by (try simp only [List.map_toArray, List.map_cons, List.map_nil]); first | done | rfl | (simp only [List.length_drop, List.length_take]; rfl)) ?_; (with_reducible refine (ip4_Build.calls a0_0 a0_1 a0_2 a0_3 a0_4 a0_5 a0_6 a0_7 a0_8 a1 t229 t230 _ A6.out).mono ?_); rintro e w11 ⟨rfl, hb⟩; refine ⟨_, rfl, ?_⟩; have n0_ := Aside0.mk (blk_below (g := gb227) (o := .cells #[.int .i64 a0_0, .int .i64 a0_1, .int .i64 a0_2, .int .i64 a0_3, .int .i64 a0_4, .int .i64 a0_5, .int .u32 a0_6, .int .u32 a0_7, .string a0_8] 24 (0, 0)) (by (with_reducible repeat (first | refine blk_drewN ?_ _ | refine blk_drew ?_ | refine blk_alloc ?_ _)); exact BK227.out) hb); have n1_ := Aside0.mk (below_step (by repeat (first | (with_reducible first | exact HB.out | apply below_alloc | apply pw_below_drewN | apply below_drew1 | refine below_set ?_ GE227.out) | exact HB.out)) hb); clear BK227; clear HB; have BK227 := n0_; have HB := n1_; clear n0_ n1_; (try clear hb); (try clear hb2); (try clear hk); (try clear hi)))
    (try simp only [Act.put, List.setIfInBounds_toArray, List.set_cons_zero, List.set_cons_succ])
    go_cut [33] (fun v33 wc => ∃ (kq : Nat) (x33_6 : Bool), v33 = .bool x33_6 ∧ Aside0 (weighbridgelaw04_Ip4Bit.j0 kq a2 true t229 t230 x33_6 a0_0 a0_1 a0_2 a0_3 a0_4 a0_5 a0_6 a0_7 a0_8 = some r) ∧ Aside0 (kq ≤ k) ∧ Aside0 (wc.heap[gb227]? = some (.cells #[.int .i64 a0_0, .int .i64 a0_1, .int .i64 a0_2, .int .i64 a0_3, .int .i64 a0_4, .int .i64 a0_5, .int .u32 a0_6, .int .u32 a0_7, .string a0_8] 24 (0, 0))) ∧ Aside0 (Below w.heap.size w wc))
    case first =>
      have H := HC7.out
      clear HC7
      by_cases c12 : t230 = 0
      · rw [if_pos c12] at H
        have c12b0 : (t230 == 0) = true := beq_iff_eq.mpr c12
        have c12b1 : (t230 != 0) = false := bne_eq_false_iff_eq.mpr c12
        clear c12
        (first | rw [c12b0] | (simp only [i64_w, i32_w]; rw [c12b0]) | skip)
        have H' := Aside0.mk H
        clear H
        have hcz13_0 : w11.cell? ⟨gb227, 0, none⟩ = some (.int .i64 a0_0) := (blk_cell BK227.out 0).trans rfl
        have hcz13_1 : w11.cell? ⟨gb227, 1, none⟩ = some (.int .i64 a0_1) := (blk_cell BK227.out 1).trans rfl
        have hcz13_2 : w11.cell? ⟨gb227, 2, none⟩ = some (.int .i64 a0_2) := (blk_cell BK227.out 2).trans rfl
        have hcz13_3 : w11.cell? ⟨gb227, 3, none⟩ = some (.int .i64 a0_3) := (blk_cell BK227.out 3).trans rfl
        have hcz13_4 : w11.cell? ⟨gb227, 4, none⟩ = some (.int .i64 a0_4) := (blk_cell BK227.out 4).trans rfl
        have hcz13_5 : w11.cell? ⟨gb227, 5, none⟩ = some (.int .i64 a0_5) := (blk_cell BK227.out 5).trans rfl
        have hcz13_6 : w11.cell? ⟨gb227, 6, none⟩ = some (.int .u32 a0_6) := (blk_cell BK227.out 6).trans rfl
        have hcz13_7 : w11.cell? ⟨gb227, 7, none⟩ = some (.int .u32 a0_7) := (blk_cell BK227.out 7).trans rfl
        have hcz13_8 : w11.cell? ⟨gb227, 8, none⟩ = some (.string a0_8) := (blk_cell BK227.out 8).trans rfl
        have hfz13_0 := blk_frozen BK227.out 0
        have hfz13_1 := blk_frozen BK227.out 1
        have hfz13_2 := blk_frozen BK227.out 2
        have hfz13_3 := blk_frozen BK227.out 3
        have hfz13_4 := blk_frozen BK227.out 4
        have hfz13_5 := blk_frozen BK227.out 5
        have hfz13_6 := blk_frozen BK227.out 6
        have hfz13_7 := blk_frozen BK227.out 7
        have hfz13_8 := blk_frozen BK227.out 8
        go_wp2
        go_meet
        case rel => exact ⟨_, (decide ((t229.size : Int) < (wrap64 (20 + (a0_8.size : Int))))), (by first | rfl | (simp; done) | (congr 2; simp only [ByteArray.size_extract, ByteArray.size_append]; (try unfold wrap64); omega) | (simp only [ByteArray.size_extract, ByteArray.size_append, Nat.sub_zero]; done) | (congr 1; simp only [ByteArray.size_extract, ByteArray.size_append, Nat.sub_zero]; omega) | (simp [*]; done)), H', ⟨by first | omega | exact Nat.le_refl _⟩, ⟨by (with_reducible repeat (first | refine blk_drewN ?_ _ | refine blk_drew ?_ | refine blk_alloc ?_ _)); exact BK227.out⟩, ⟨by repeat (first | (with_reducible first | exact HB.out | apply below_alloc | apply pw_below_drewN | apply below_drew1 | refine below_set ?_ GE227.out) | exact HB.out)⟩⟩
      · rw [if_neg c12] at H
        have c12b0 : (t230 == 0) = false := beq_eq_false_iff_ne.mpr c12
        have c12b1 : (t230 != 0) = true := bne_iff_ne.mpr c12
        (first | rw [c12b0] | (simp only [i64_w, i32_w]; rw [c12b0]) | skip)
        have H' := Aside0.mk H
        clear H
        go_wp2
        go_meet
        case rel => exact ⟨_, (true), (by first | rfl | (simp; done) | (congr 2; simp only [ByteArray.size_extract, ByteArray.size_append]; (try unfold wrap64); omega) | (simp only [ByteArray.size_extract, ByteArray.size_append, Nat.sub_zero]; done) | (congr 1; simp only [ByteArray.size_extract, ByteArray.size_append, Nat.sub_zero]; omega) | (simp [*]; done)), H', ⟨by first | omega | exact Nat.le_refl _⟩, ⟨by (with_reducible repeat (first | refine blk_drewN ?_ _ | refine blk_drew ?_ | refine blk_alloc ?_ _)); exact BK227.out⟩, ⟨by repeat (first | (with_reducible first | exact HB.out | apply below_alloc | apply pw_below_drewN | apply below_drew1 | refine below_set ?_ GE227.out) | exact HB.out)⟩⟩
    case rest =>
      clear HC7
      try clear c1
      try clear p2
      try clear p4
      try clear c5
      try clear p6
      try clear c10
      try clear c11
      try clear c12
      try clear c12b0
      try clear c12b1
      try clear hcz10_0
      try clear hcz10_1
      try clear hcz10_2
      try clear hcz10_3
      try clear hcz10_4
      try clear hcz10_5
      try clear hcz10_6
      try clear hcz10_7
      try clear hcz10_8
      try clear hcz13_0
      try clear hcz13_1
      try clear hcz13_2
      try clear hcz13_3
      try clear hcz13_4
      try clear hcz13_5
      try clear hcz13_6
      try clear hcz13_7
      try clear hcz13_8
      try clear hfz10_0
      try clear hfz10_1
      try clear hfz10_2
      try clear hfz10_3
      try clear hfz10_4
      try clear hfz10_5
      try clear hfz10_6
      try clear hfz10_7
      try clear hfz10_8
      try clear hfz13_0
      try clear hfz13_1
      try clear hfz13_2
      try clear hfz13_3
      try clear hfz13_4
      try clear hfz13_5
      try clear hfz13_6
      try clear hfz13_7
      try clear hfz13_8
      obtain ⟨kq, x33_6, rfl, HA, HJ6, BK227, HB⟩ := hcut
      cases kq with
      | zero => exact absurd HA.out (by simp [weighbridgelaw04_Ip4Bit.j0])
      | succ kj6 =>
        have H := HA.out
        clear HA
        simp only [weighbridgelaw04_Ip4Bit.j0] at H
        by_cases c14 : x33_6 = true
        · subst c14
          have H1 : (if true = true then (some (t230 != 0)) else (some false)) = some r := by first | (rw [if_pos rfl] at H; exact H) | (rw [if_pos trivial] at H; exact H)
          clear H
          have H := H1
          clear H1
          have c15 : true = true := rfl
          · clear c15
            have H1 : (some (t230 != 0)) = some r := by first | (rw [if_pos rfl] at H; exact H) | (rw [if_pos trivial] at H; exact H)
            clear H
            have H := H1
            clear H1
            obtain rfl := Option.some.inj H
            go_wp2
            go_ret
            exact ⟨by first | rfl | (simp [errW_none, errW_some] <;> rfl) | (simp [*, errW_none, errW_some] <;> rfl), by repeat (first | (with_reducible first | exact HB.out | apply below_alloc | apply pw_below_drewN | apply below_drew1 | refine below_set ?_ GE227.out) | exact HB.out)⟩
        · replace c14 := Bool.eq_false_iff.mpr c14
          subst c14
          have H1 : (if a2 < 0 then (if (wrap64 (8 * (wrap64 (20 + (a0_8.size : Int))))) = 0 then (none) else (if (Int.tmod (wrap64 (-(wrap64 (a2 + 1)))) (wrap64 (8 * (wrap64 (20 + (a0_8.size : Int)))))) < 4 then (if t229.size ≤ 281474976710656 then ((some (numsOf t229 : List Int)).bind fun y231 => (if 0 ≤ (wrap64 (Int.tdiv (wrap64 ((Int.tmod (wrap64 (-(wrap64 (a2 + 1)))) (wrap64 (8 * (wrap64 (20 + (a0_8.size : Int)))))) + 4)) 8)) then (if (wrap64 (Int.tdiv (wrap64 ((Int.tmod (wrap64 (-(wrap64 (a2 + 1)))) (wrap64 (8 * (wrap64 (20 + (a0_8.size : Int)))))) + 4)) 8)) < (y231.length : Int) then (if 0 ≤ (Int.tmod (wrap64 ((Int.tmod (wrap64 (-(wrap64 (a2 + 1)))) (wrap64 (8 * (wrap64 (20 + (a0_8.size : Int)))))) + 4)) 8) then ((ip4_Parse.f (strOfNums (y231.set ((wrap64 (Int.tdiv (wrap64 ((Int.tmod (wrap64 (-(wrap64 (a2 + 1)))) (wrap64 (8 * (wrap64 (20 + (a0_8.size : Int)))))) + 4)) 8)) : Int).toNat (Go.bits .xor .u8 (rd y231 (wrap64 (Int.tdiv (wrap64 ((Int.tmod (wrap64 (-(wrap64 (a2 + 1)))) (wrap64 (8 * (wrap64 (20 + (a0_8.size : Int)))))) + 4)) 8))) (shl .u8 1 (Int.tmod (wrap64 ((Int.tmod (wrap64 (-(wrap64 (a2 + 1)))) (wrap64 (8 * (wrap64 (20 + (a0_8.size : Int)))))) + 4)) 8)))))).bind fun bt236 => (if true = true then (some (bt236.2.2.2.2.2.2.2.2.2.2 != 0)) else (some false))) else (none)) else (none)) else (none))) else (none)) else (if t229.size ≤ 281474976710656 then ((some (numsOf t229 : List Int)).bind fun y248 => (if 0 ≤ (wrap64 (Int.tdiv (Int.tmod (wrap64 (-(wrap64 (a2 + 1)))) (wrap64 (8 * (wrap64 (20 + (a0_8.size : Int)))))) 8)) then (if (wrap64 (Int.tdiv (Int.tmod (wrap64 (-(wrap64 (a2 + 1)))) (wrap64 (8 * (wrap64 (20 + (a0_8.size : Int)))))) 8)) < (y248.length : Int) then (if 0 ≤ (Int.tmod (Int.tmod (wrap64 (-(wrap64 (a2 + 1)))) (wrap64 (8 * (wrap64 (20 + (a0_8.size : Int)))))) 8) then ((ip4_Parse.f (strOfNums (y248.set ((wrap64 (Int.tdiv (Int.tmod (wrap64 (-(wrap64 (a2 + 1)))) (wrap64 (8 * (wrap64 (20 + (a0_8.size : Int)))))) 8)) : Int).toNat (Go.bits .xor .u8 (rd y248 (wrap64 (Int.tdiv (Int.tmod (wrap64 (-(wrap64 (a2 + 1)))) (wrap64 (8 * (wrap64 (20 + (a0_8.size : Int)))))) 8))) (shl .u8 1 (Int.tmod (Int.tmod (wrap64 (-(wrap64 (a2 + 1)))) (wrap64 (8 * (wrap64 (20 + (a0_8.size : Int)))))) 8)))))).bind fun bt253 => (if true = true then (some (bt253.2.2.2.2.2.2.2.2.2.2 != 0)) else (some false))) else (none)) else (none)) else (none))) else (none)))) else (if (wrap64 (8 * (wrap64 (20 + (a0_8.size : Int))))) = 0 then (none) else (if (Int.tmod a2 (wrap64 (8 * (wrap64 (20 + (a0_8.size : Int)))))) < 4 then (if t229.size ≤ 281474976710656 then ((some (numsOf t229 : List Int)).bind fun y265 => (if 0 ≤ (wrap64 (Int.tdiv (wrap64 ((Int.tmod a2 (wrap64 (8 * (wrap64 (20 + (a0_8.size : Int)))))) + 4)) 8)) then (if (wrap64 (Int.tdiv (wrap64 ((Int.tmod a2 (wrap64 (8 * (wrap64 (20 + (a0_8.size : Int)))))) + 4)) 8)) < (y265.length : Int) then (if 0 ≤ (Int.tmod (wrap64 ((Int.tmod a2 (wrap64 (8 * (wrap64 (20 + (a0_8.size : Int)))))) + 4)) 8) then ((ip4_Parse.f (strOfNums (y265.set ((wrap64 (Int.tdiv (wrap64 ((Int.tmod a2 (wrap64 (8 * (wrap64 (20 + (a0_8.size : Int)))))) + 4)) 8)) : Int).toNat (Go.bits .xor .u8 (rd y265 (wrap64 (Int.tdiv (wrap64 ((Int.tmod a2 (wrap64 (8 * (wrap64 (20 + (a0_8.size : Int)))))) + 4)) 8))) (shl .u8 1 (Int.tmod (wrap64 ((Int.tmod a2 (wrap64 (8 * (wrap64 (20 + (a0_8.size : Int)))))) + 4)) 8)))))).bind fun bt270 => (if true = true then (some (bt270.2.2.2.2.2.2.2.2.2.2 != 0)) else (some false))) else (none)) else (none)) else (none))) else (none)) else (if t229.size ≤ 281474976710656 then ((some (numsOf t229 : List Int)).bind fun y282 => (if 0 ≤ (wrap64 (Int.tdiv (Int.tmod a2 (wrap64 (8 * (wrap64 (20 + (a0_8.size : Int)))))) 8)) then (if (wrap64 (Int.tdiv (Int.tmod a2 (wrap64 (8 * (wrap64 (20 + (a0_8.size : Int)))))) 8)) < (y282.length : Int) then (if 0 ≤ (Int.tmod (Int.tmod a2 (wrap64 (8 * (wrap64 (20 + (a0_8.size : Int)))))) 8) then ((ip4_Parse.f (strOfNums (y282.set ((wrap64 (Int.tdiv (Int.tmod a2 (wrap64 (8 * (wrap64 (20 + (a0_8.size : Int)))))) 8)) : Int).toNat (Go.bits .xor .u8 (rd y282 (wrap64 (Int.tdiv (Int.tmod a2 (wrap64 (8 * (wrap64 (20 + (a0_8.size : Int)))))) 8))) (shl .u8 1 (Int.tmod (Int.tmod a2 (wrap64 (8 * (wrap64 (20 + (a0_8.size : Int)))))) 8)))))).bind fun bt287 => (if true = true then (some (bt287.2.2.2.2.2.2.2.2.2.2 != 0)) else (some false))) else (none)) else (none)) else (none))) else (none))))) = some r := by rw [if_neg (show ¬ (false = true) by decide)] at H; exact H
          clear H
          have H := H1
          clear H1
          by_cases c16 : a2 < 0
          · rw [if_pos c16] at H
            have c16b0 : decide (a2 < 0) = true := decide_eq_true c16
            clear c16
            by_cases c17 : (wrap64 (8 * (wrap64 (20 + (a0_8.size : Int))))) = 0
            · rw [if_pos c17] at H
              exact absurd H (by simp)
            · rw [if_neg c17] at H
              have c17b0 : ((wrap64 (8 * (wrap64 (20 + (a0_8.size : Int))))) == 0) = false := beq_eq_false_iff_ne.mpr c17
              have c17b1 : ((wrap64 (8 * (wrap64 (20 + (a0_8.size : Int))))) != 0) = true := bne_iff_ne.mpr c17
              by_cases c18 : (Int.tmod (wrap64 (-(wrap64 (a2 + 1)))) (wrap64 (8 * (wrap64 (20 + (a0_8.size : Int)))))) < 4
              · rw [if_pos c18] at H
                have c18b0 : decide ((Int.tmod (wrap64 (-(wrap64 (a2 + 1)))) (wrap64 (8 * (wrap64 (20 + (a0_8.size : Int)))))) < 4) = true := decide_eq_true c18
                clear c18
                by_cases c19 : t229.size ≤ 281474976710656
                · rw [if_pos c19] at H
                  have c19b0 := eq_true c19
                  have c19b1 : decide (t229.size ≤ 281474976710656) = true := decide_eq_true c19
                  clear c19
                  obtain ⟨y231, hy231⟩ : ∃ y_ : List Int, y_ = (numsOf t229) := ⟨_, rfl⟩
                  replace H : (if 0 ≤ (wrap64 (Int.tdiv (wrap64 ((Int.tmod (wrap64 (-(wrap64 (a2 + 1)))) (wrap64 (8 * (wrap64 (20 + (a0_8.size : Int)))))) + 4)) 8)) then (if (wrap64 (Int.tdiv (wrap64 ((Int.tmod (wrap64 (-(wrap64 (a2 + 1)))) (wrap64 (8 * (wrap64 (20 + (a0_8.size : Int)))))) + 4)) 8)) < (y231.length : Int) then (if 0 ≤ (Int.tmod (wrap64 ((Int.tmod (wrap64 (-(wrap64 (a2 + 1)))) (wrap64 (8 * (wrap64 (20 + (a0_8.size : Int)))))) + 4)) 8) then ((ip4_Parse.f (strOfNums (y231.set ((wrap64 (Int.tdiv (wrap64 ((Int.tmod (wrap64 (-(wrap64 (a2 + 1)))) (wrap64 (8 * (wrap64 (20 + (a0_8.size : Int)))))) + 4)) 8)) : Int).toNat (Go.bits .xor .u8 (rd y231 (wrap64 (Int.tdiv (wrap64 ((Int.tmod (wrap64 (-(wrap64 (a2 + 1)))) (wrap64 (8 * (wrap64 (20 + (a0_8.size : Int)))))) + 4)) 8))) (shl .u8 1 (Int.tmod (wrap64 ((Int.tmod (wrap64 (-(wrap64 (a2 + 1)))) (wrap64 (8 * (wrap64 (20 + (a0_8.size : Int)))))) + 4)) 8)))))).bind fun bt236 => (if true = true then (some (bt236.2.2.2.2.2.2.2.2.2.2 != 0)) else (some false))) else (none)) else (none)) else (none)) = some r := by first | (rw [hy231]; with_reducible exact H) | (have H2_ := (Option.bind_some _ _).symm.trans H; rw [hy231]; with_reducible exact H2_) | (have H2_ := (Option.bind_some _ _).symm.trans H; with_reducible exact H2_) | with_reducible exact H | (rw [hy231]; exact H) | exact H
                  have Ny231 := Aside0.mk hy231
                  clear hy231
                  obtain ⟨ji20, hji20⟩ : ∃ j_ : Int, (wrap64 (Int.tdiv (wrap64 ((Int.tmod (wrap64 (-(wrap64 (a2 + 1)))) (wrap64 (8 * (wrap64 (20 + (a0_8.size : Int)))))) + 4)) 8)) = j_ := ⟨_, rfl⟩
                  replace H : (if 0 ≤ (ji20) then (if (ji20) < (y231.length : Int) then (if 0 ≤ (Int.tmod (wrap64 ((Int.tmod (wrap64 (-(wrap64 (a2 + 1)))) (wrap64 (8 * (wrap64 (20 + (a0_8.size : Int)))))) + 4)) 8) then ((ip4_Parse.f (strOfNums (y231.set ((ji20) : Int).toNat (Go.bits .xor .u8 (rd y231 (ji20)) (shl .u8 1 (Int.tmod (wrap64 ((Int.tmod (wrap64 (-(wrap64 (a2 + 1)))) (wrap64 (8 * (wrap64 (20 + (a0_8.size : Int)))))) + 4)) 8)))))).bind fun bt236 => (if true = true then (some (bt236.2.2.2.2.2.2.2.2.2.2 != 0)) else (some false))) else (none)) else (none)) else (none)) = some r := by first | (rw [hji20] at H; exact H) | (simp only [hji20] at H ⊢; exact H)
                  have hji20w : (IntKind.i64.wrap (Int.tdiv (wrap64 ((Int.tmod (wrap64 (-(wrap64 (a2 + 1)))) (wrap64 (8 * (wrap64 (20 + (a0_8.size : Int)))))) + 4)) 8)) = ji20 := (i64_w _).trans hji20
                  by_cases c21 : 0 ≤ (ji20)
                  · rw [if_pos c21] at H
                    have c21b0 : decide (0 ≤ (ji20)) = true := decide_eq_true c21
                    clear c21
                    by_cases c22 : (ji20) < (y231.length : Int)
                    · rw [if_pos c22] at H
                      have c22b0 : decide ((ji20) < (y231.length : Int)) = true := decide_eq_true c22
                      clear c22
                      obtain ⟨ji23, hji23⟩ : ∃ j_ : Int, (Int.tmod (wrap64 ((Int.tmod (wrap64 (-(wrap64 (a2 + 1)))) (wrap64 (8 * (wrap64 (20 + (a0_8.size : Int)))))) + 4)) 8) = j_ := ⟨_, rfl⟩
                      replace H : (if 0 ≤ (ji23) then ((ip4_Parse.f (strOfNums (y231.set ((ji20) : Int).toNat (Go.bits .xor .u8 (rd y231 (ji20)) (shl .u8 1 (ji23)))))).bind fun bt236 => (if true = true then (some (bt236.2.2.2.2.2.2.2.2.2.2 != 0)) else (some false))) else (none)) = some r := by first | (rw [hji23] at H; exact H) | (simp only [hji23] at H ⊢; exact H)
                      by_cases c24 : 0 ≤ (ji23)
                      · rw [if_pos c24] at H
                        have c24b0 := eq_true c24
                        have c24b1 : decide (0 ≤ (ji23)) = true := decide_eq_true c24
                        clear c24
                        obtain ⟨ji25, hji25⟩ : ∃ j_ : Int, (shl .u8 1 (ji23)) = j_ := ⟨_, rfl⟩
                        replace H : ((ip4_Parse.f (strOfNums (y231.set ((ji20) : Int).toNat (Go.bits .xor .u8 (rd y231 (ji20)) (ji25))))).bind fun bt236 => (if true = true then (some (bt236.2.2.2.2.2.2.2.2.2.2 != 0)) else (some false))) = some r := by first | (rw [hji25] at H; exact H) | (simp only [hji25] at H ⊢; exact H)
                        have hji25_ : (IntKind.u8.wrap (1 * 2 ^ min (ji23).toNat 8)) = ji25 := hji25
                        have hji25z : (ji23) ≤ 8 → (IntKind.u8.wrap (1 * 2 ^ (ji23).toNat)) = ji25 := shl_small hji25
                        have hji25u : (IntKind.u8.wrap (2 ^ min (ji23).toNat 8)) = ji25 := by have h_ := hji25_; rw [Int.one_mul] at h_; exact h_
                        have hji25v : (ji23) ≤ 8 → (IntKind.u8.wrap (2 ^ (ji23).toNat)) = ji25 := fun hle_ => by have h_ := hji25z hle_; rw [Int.one_mul] at h_; exact h_
                        obtain ⟨y235, hy235⟩ : ∃ y_ : List Int, y_ = (y231.set ((ji20) : Int).toNat (Go.bits .xor .u8 (rd y231 (ji20)) (ji25))) := ⟨_, rfl⟩
                        replace H : ((ip4_Parse.f (strOfNums y235)).bind fun bt236 => (if true = true then (some (bt236.2.2.2.2.2.2.2.2.2.2 != 0)) else (some false))) = some r := by first | (rw [hy235]; with_reducible exact H) | (have H2_ := (Option.bind_some _ _).symm.trans H; rw [hy235]; with_reducible exact H2_) | (have H2_ := (Option.bind_some _ _).symm.trans H; with_reducible exact H2_) | with_reducible exact H | (rw [hy235]; exact H) | exact H
                        have Ny235 := Aside0.mk hy235
                        clear hy235
                        replace H := Option.bind_eq_some_iff.mp H
                        obtain ⟨⟨t236, t237, t238, t239, t240, t241, t242, t243, t244, t245, t246⟩, A270, H⟩ := H
                        replace H : (if true = true then (some (t246 != 0)) else (some false)) = some r := H
                        have A27 := Aside0.mk A270
                        clear A270
                        have c28 : true = true := rfl
                        · clear c28
                          have H1 : (some (t246 != 0)) = some r := by first | (rw [if_pos rfl] at H; exact H) | (rw [if_pos trivial] at H; exact H)
                          clear H
                          have H := H1
                          clear H1
                          obtain rfl := Option.some.inj H
                          have hcz29_0 : wc.cell? ⟨gb227, 0, none⟩ = some (.int .i64 a0_0) := (blk_cell BK227.out 0).trans rfl
                          have hcz29_1 : wc.cell? ⟨gb227, 1, none⟩ = some (.int .i64 a0_1) := (blk_cell BK227.out 1).trans rfl
                          have hcz29_2 : wc.cell? ⟨gb227, 2, none⟩ = some (.int .i64 a0_2) := (blk_cell BK227.out 2).trans rfl
                          have hcz29_3 : wc.cell? ⟨gb227, 3, none⟩ = some (.int .i64 a0_3) := (blk_cell BK227.out 3).trans rfl
                          have hcz29_4 : wc.cell? ⟨gb227, 4, none⟩ = some (.int .i64 a0_4) := (blk_cell BK227.out 4).trans rfl
                          have hcz29_5 : wc.cell? ⟨gb227, 5, none⟩ = some (.int .i64 a0_5) := (blk_cell BK227.out 5).trans rfl
                          have hcz29_6 : wc.cell? ⟨gb227, 6, none⟩ = some (.int .u32 a0_6) := (blk_cell BK227.out 6).trans rfl
                          have hcz29_7 : wc.cell? ⟨gb227, 7, none⟩ = some (.int .u32 a0_7) := (blk_cell BK227.out 7).trans rfl
                          have hcz29_8 : wc.cell? ⟨gb227, 8, none⟩ = some (.string a0_8) := (blk_cell BK227.out 8).trans rfl
                          have hfz29_0 := blk_frozen BK227.out 0
                          have hfz29_1 := blk_frozen BK227.out 1
                          have hfz29_2 := blk_frozen BK227.out 2
                          have hfz29_3 := blk_frozen BK227.out 3
                          have hfz29_4 := blk_frozen BK227.out 4
                          have hfz29_5 := blk_frozen BK227.out 5
                          have hfz29_6 := blk_frozen BK227.out 6
                          have hfz29_7 := blk_frozen BK227.out 7
                          have hfz29_8 := blk_frozen BK227.out 8
                          try go_wp2_with (first | ((with_reducible refine gate_dst (N := 56) rfl ?_); (try (refine gate_guard (by rfl) ?_; dsimp only)); refine Kb.Q_conv (Kd.int .u8) 5 rfl (N := 56) rfl 9 42 _ rfl t229 rfl Try.underlying9 Try.underlying42 Try.underlying5 (ok := fun _ => True) trivial (of_decide_eq_true (by first | (with_reducible assumption) | assumption)) ?_; intro v232 w30 ho31 hb hg_ hnew_; clear hg_ hnew_; (first | rw [← Ny231.out] at ho31 | (simp only [Int.reduceToNat] at ho31; rw [← Ny231.out] at ho31)); have n0_ := Aside0.mk (Kb.Q_lower ho31 (below_size (by repeat (first | (with_reducible first | exact HB.out | apply below_alloc | apply pw_below_drewN | apply below_drew1 | refine below_set ?_ GE227.out) | exact HB.out)))); have n1_ := Aside0.mk (blk_below (g := gb227) (o := .cells #[.int .i64 a0_0, .int .i64 a0_1, .int .i64 a0_2, .int .i64 a0_3, .int .i64 a0_4, .int .i64 a0_5, .int .u32 a0_6, .int .u32 a0_7, .string a0_8] 24 (0, 0)) (by (with_reducible repeat (first | refine blk_drewN ?_ _ | refine blk_drew ?_ | refine blk_alloc ?_ _)); exact BK227.out) hb); have n2_ := Aside0.mk (below_step (by repeat (first | (with_reducible first | exact HB.out | apply below_alloc | apply pw_below_drewN | apply below_drew1 | refine below_set ?_ GE227.out) | exact HB.out)) hb); clear BK227; clear HB; have HO233 := n0_; have BK227 := n1_; have HB := n2_; clear n0_ n1_ n2_; clear hb ho31))
                          have n0_ := Aside0.mk (Kb.Q_drew HO233.out)
                          have n1_ := Aside0.mk (blk_drew BK227.out)
                          have n2_ := Aside0.mk (below_drew1 HB.out)
                          clear HO233
                          clear BK227
                          clear HB
                          have HO233 := n0_
                          have BK227 := n1_
                          have HB := n2_
                          clear n0_ n1_ n2_
                          obtain ⟨Ao33, co33, eo33, _⟩ := Kb.Q_slice HO233.out
                          (first | subst eo33 | (injection eo33 with f1_ f2_ f3_; have f4_ := f1_.symm; have f5_ := f3_.symm; clear f1_ f2_ f3_; subst f4_; subst f5_))
                          have p234 : 0 ≤ ((ji20) : Int) := of_decide_eq_true (by first | (with_reducible assumption) | assumption)
                          have q234 : (ji20) < (y231.length : Int) := of_decide_eq_true (by first | (with_reducible assumption) | assumption)
                          obtain ⟨ad234, e234, hx234_0⟩ := Kd.at_int (Kb.Q_reads' HO233.out).2.2 (ji20) p234 q234
                          cases e234
                          replace p234 := eq_true p234
                          replace q234 := eq_true q234
                          have p26 : 0 ≤ ((ji20) : Int) := of_decide_eq_true (by first | (with_reducible assumption) | assumption)
                          have q26 : ((ji20) : Int) < ((y231.length : Int) : Int) := of_decide_eq_true (by first | (with_reducible assumption) | assumption)
                          obtain ⟨go26, co26, eo26, gb26, gl26, cl26, HG26⟩ := Kb.Q_form HO233.out (by omega)
                          (first | cases eo26 | (injection eo26 with ea_ en_ ec_; (first | subst ea_ | (injection ea_ with ea_; subst ea_)); subst ec_; clear en_))
                          have GB26 := Aside0.mk gb26
                          have GG26 := Aside0.mk HG26
                          clear gb26 gl26 HG26
                          (first | simp only [add_at, Nat.zero_add] at hx234_0 | skip)
                          obtain ⟨hx26_0, hf26_0⟩ := Kb.Q_cell 0 HO233.out ((ji20) : Int) p26 q26
                          replace p26 := eq_true p26
                          replace q26 := eq_true q26
                          have HP34 := (Kb.Q_putg HO233.out ((ji20) : Int) (of_decide_eq_true (by first | (with_reducible assumption) | assumption)) (by have h_ : ((ji20) : Int) < ((y231.length : Int) : Int) := of_decide_eq_true (by first | (with_reducible assumption) | assumption); first | exact h_ | (have e_ := (Kb.Q_reads' HO233.out).1; omega) | simpa using h_) (Go.bits .xor .u8 (rd y231 (ji20)) (ji25))).1
                          rw [← Ny235.out] at HP34
                          have HQ34 := Aside0.mk HP34
                          clear HP34
                          refine start_ (n := 14) (S := fun w' => w'.cell? ⟨go26, ((ji20)).toNat, none⟩ = some (.int .u8 (rd y231 (ji20)))) (ds := [13]) #[false, false, false, false, false, false, false, false, false, false, false, false, false, false] (by kernel_rfl) rfl rfl (hx234_0) (fun hHeld => ?_); refine with_tabW weighbridgelaw04_Ip4Bit.tab13 weighbridgelaw04_Ip4Bit.bits13 (fun HT_ HW_ => ?_)
                          generalize w30.drew = w32 at HO233 BK227 HB GG26 HQ34 hf26_0 hx234_0 hx26_0 hHeld ⊢
                          refine pure_ (i := 0) (N := some 57) (v := ?_) (a' := ?_) #[true, false, false, false, false, false, false, false, false, false, false, false, false, false] rfl rfl (any_of HT_.out (by kernel_rfl)) (fun _ _ _ h => h) (Or.inl ⟨by rfl, ?_⟩) ?_ ?_
                          rotate_left
                          · intro w'
                            go_simp
                            with_reducible rfl
                          rotate_left
                          · simp only [Act.put, List.setIfInBounds_toArray, List.set_cons_zero, List.set_cons_succ, i64_w, i32_w]
                            rfl
                          refine pure_ (i := 1) (N := some 58) (v := ?_) (a' := ?_) #[true, true, false, false, false, false, false, false, false, false, false, false, false, false] rfl rfl (any_of HT_.out (by kernel_rfl)) (fun _ _ _ h => h) (Or.inl ⟨by rfl, ?_⟩) ?_ ?_
                          rotate_left
                          · intro w'
                            go_simp
                            with_reducible rfl
                          rotate_left
                          · simp only [Act.put, List.setIfInBounds_toArray, List.set_cons_zero, List.set_cons_succ, i64_w, i32_w]
                            rfl
                          refine pure_ (i := 2) (N := some 59) (v := ?_) (a' := ?_) #[true, true, true, false, false, false, false, false, false, false, false, false, false, false] rfl rfl (any_of HT_.out (by kernel_rfl)) (fun _ _ _ h => h) (Or.inl ⟨by rfl, ?_⟩) ?_ ?_
                          rotate_left
                          · intro w'
                            go_simp
                            with_reducible rfl
                          rotate_left
                          · simp only [Act.put, List.setIfInBounds_toArray, List.set_cons_zero, List.set_cons_succ, i64_w, i32_w]
                            rfl
                          refine pure_ (i := 3) (N := some 60) (v := ?_) (a' := ?_) #[true, true, true, true, false, false, false, false, false, false, false, false, false, false] rfl rfl (any_of HT_.out (by kernel_rfl)) (fun _ _ _ h => h) (Or.inl ⟨by rfl, ?_⟩) ?_ ?_
                          rotate_left
                          · intro w'
                            go_simp
                            with_reducible rfl
                          rotate_left
                          · simp only [Act.put, List.setIfInBounds_toArray, List.set_cons_zero, List.set_cons_succ, i64_w, i32_w]
                            rfl
                          refine pure_ (i := 4) (N := some 61) (v := ?_) (a' := ?_) #[true, true, true, true, true, false, false, false, false, false, false, false, false, false] rfl rfl (any_of HT_.out (by kernel_rfl)) (fun _ _ _ h => h) (Or.inl ⟨by rfl, ?_⟩) ?_ ?_
                          rotate_left
                          · intro w'
                            go_simp
                            with_reducible rfl
                          rotate_left
                          · simp only [Act.put, List.setIfInBounds_toArray, List.set_cons_zero, List.set_cons_succ, i64_w, i32_w]
                            rfl
                          refine pure_ (i := 5) (N := some 62) (v := ?_) (a' := ?_) #[true, true, true, true, true, true, false, false, false, false, false, false, false, false] rfl rfl (any_of HT_.out (by kernel_rfl)) (fun _ _ _ h => h) (Or.inl ⟨by rfl, ?_⟩) ?_ ?_
                          rotate_left
                          · intro w'
                            go_simp
                            with_reducible rfl
                          rotate_left
                          · simp only [Act.put, List.setIfInBounds_toArray, List.set_cons_zero, List.set_cons_succ, i64_w, i32_w]
                            rfl
                          refine pure_ (i := 6) (N := some 63) (v := ?_) (a' := ?_) #[true, true, true, true, true, true, true, false, false, false, false, false, false, false] rfl rfl (any_of HT_.out (by kernel_rfl)) (fun _ _ _ h => h) (Or.inl ⟨by rfl, ?_⟩) ?_ ?_
                          rotate_left
                          · intro w'
                            go_simp
                            with_reducible rfl
                          rotate_left
                          · simp only [Act.put, List.setIfInBounds_toArray, List.set_cons_zero, List.set_cons_succ, i64_w, i32_w]
                            rfl
                          refine pure_ (i := 8) (N := some 65) (v := ?_) (a' := ?_) #[true, true, true, true, true, true, true, false, true, false, false, false, false, false] rfl rfl (any_of HT_.out (by kernel_rfl)) (fun _ _ _ h => h) (Or.inl ⟨by rfl, ?_⟩) ?_ ?_
                          rotate_left
                          · intro w'
                            go_simp
                            with_reducible rfl
                          rotate_left
                          · simp only [Act.put, List.setIfInBounds_toArray, List.set_cons_zero, List.set_cons_succ, i64_w, i32_w]
                            rfl
                          refine pure_ (i := 9) (N := some 66) (v := ?_) (a' := ?_) #[true, true, true, true, true, true, true, false, true, true, false, false, false, false] rfl rfl (any_of HT_.out (by kernel_rfl)) (fun _ _ _ h => h) (Or.inl ⟨by rfl, ?_⟩) ?_ ?_
                          rotate_left
                          · intro w'
                            go_simp
                            with_reducible rfl
                          rotate_left
                          · simp only [Act.put, List.setIfInBounds_toArray, List.set_cons_zero, List.set_cons_succ, i64_w, i32_w]
                            rfl
                          refine pure_ (i := 10) (N := some 67) (v := ?_) (a' := ?_) #[true, true, true, true, true, true, true, false, true, true, true, false, false, false] rfl rfl (any_of HT_.out (by kernel_rfl)) (fun _ _ _ h => h) (Or.inl ⟨by rfl, ?_⟩) ?_ ?_
                          rotate_left
                          · intro w'
                            go_simp
                            with_reducible rfl
                          rotate_left
                          · simp only [Act.put, List.setIfInBounds_toArray, List.set_cons_zero, List.set_cons_succ, i64_w, i32_w]
                            rfl
                          refine take_ (i := 7) (N := some 64) (v := ?_) (a' := ?_) #[true, true, true, true, true, true, true, true, true, true, true, false, false, false] rfl rfl (take_ofW HT_.out HW_.out (by kernel_rfl)) (fun _ _ _ h => h) (Or.inl ⟨by rfl, ?_⟩) hHeld ?_ ?_
                          rotate_left
                          · intro w' s0
                            go_simp
                            with_reducible rfl
                          rotate_left
                          · simp only [Act.put, List.setIfInBounds_toArray, List.set_cons_zero, List.set_cons_succ, i64_w, i32_w]
                            rfl
                          refine pure_ (i := 11) (N := some 68) (v := ?_) (a' := ?_) #[true, true, true, true, true, true, true, true, true, true, true, true, false, false] rfl rfl (any_of HT_.out (by kernel_rfl)) (fun _ _ _ h => h) (Or.inl ⟨by rfl, ?_⟩) ?_ ?_
                          rotate_left
                          · intro w'
                            go_simp
                            with_reducible rfl
                          rotate_left
                          · simp only [Act.put, List.setIfInBounds_toArray, List.set_cons_zero, List.set_cons_succ, i64_w, i32_w]
                            rfl
                          refine pure_ (i := 12) (N := some 69) (v := ?_) (a' := ?_) #[true, true, true, true, true, true, true, true, true, true, true, true, true, false] rfl rfl (any_of HT_.out (by kernel_rfl)) (fun _ _ _ h => h) (Or.inl ⟨by rfl, ?_⟩) ?_ ?_
                          rotate_left
                          · intro w'
                            go_simp
                            with_reducible rfl
                          rotate_left
                          · simp only [Act.put, List.setIfInBounds_toArray, List.set_cons_zero, List.set_cons_succ, i64_w, i32_w]
                            rfl
                          refine last_ (i := 13) (N := none) #[true, true, true, true, true, true, true, true, true, true, true, true, true, true] rfl rfl (one_of HT_.out (by kernel_rfl)) (by decide) (fun K hK => ?_)
                          refine skip_ (w1 := ?_) (by rfl) rfl ?_ ?_
                          rotate_left
                          · go_simp
                            rfl
                          refine hK.out _ _ ?_
                          clear hK K
                          refine done_ (done_of HT_.out (by kernel_rfl)) ?_
                          have n0_ : Aside0 (Kb.Q (Kd.int .u8) 5 (w32.setCell ⟨go26, ((ji20) : Int).toNat, none⟩ (.int .u8 (Go.bits .xor .u8 (rd y231 (ji20)) (ji25)))) w.heap.size (fun _ => True) (.slice (some ⟨go26, 0, none⟩) y231.length co33) y235) := ⟨by (with_reducible repeat (first | apply Kb.Q_alloc | apply Kb.Q_drewN | apply Kb.Q_drew)); exact HQ34.out⟩
                          have n1_ : Aside0 ((w32.setCell ⟨go26, ((ji20) : Int).toNat, none⟩ (.int .u8 (Go.bits .xor .u8 (rd y231 (ji20)) (ji25)))).heap[gb227]? = some (.cells #[.int .i64 a0_0, .int .i64 a0_1, .int .i64 a0_2, .int .i64 a0_3, .int .i64 a0_4, .int .i64 a0_5, .int .u32 a0_6, .int .u32 a0_7, .string a0_8] 24 (0, 0))) := ⟨by (with_reducible repeat (first | refine blk_drewN ?_ _ | refine blk_drew ?_ | refine blk_alloc ?_ _)); refine blk_far ?_ (by have h_ := Kb.Q_ne HO233.out BK227.out (by decide); intro e_; exact h_ (by rw [e_]; rfl)) _; (with_reducible repeat (first | refine blk_drewN ?_ _ | refine blk_drew ?_ | refine blk_alloc ?_ _)); exact BK227.out⟩
                          have n2_ : Aside0 (Below w.heap.size w (w32.setCell ⟨go26, ((ji20) : Int).toNat, none⟩ (.int .u8 (Go.bits .xor .u8 (rd y231 (ji20)) (ji25))))) := ⟨by repeat (first | (with_reducible first | exact HB.out | apply below_alloc | apply pw_below_drewN | apply below_drew1 | refine below_set ?_ GB26.out | refine below_set ?_ GE227.out) | exact HB.out)⟩
                          (try clear HO233)
                          (try clear BK227)
                          (try clear HB)
                          generalize (w32.setCell ⟨go26, ((ji20) : Int).toNat, none⟩ (.int .u8 (Go.bits .xor .u8 (rd y231 (ji20)) (ji25)))) = w35 at n0_ n1_ n2_ ⊢
                          have HO233 := n0_
                          have BK227 := n1_
                          have HB := n2_
                          clear n0_ n1_ n2_
                          have hcv36 := Kb.Q_string (P := Try.prog) Try.underlying42 Try.underlying5 Try.underlying9 (by exact HO233.out)
                          try go_wp2_with (first | ((with_reducible refine gate_callee (f := 18) rfl ?_); refine goesL_ (some 73) rfl rfl Try.func18 (by kernel_rfl) rfl #[.string (strOfNums y235)] rfl (by (try simp only [List.map_toArray, List.map_cons, List.map_nil]); first | done | rfl | (simp only [List.length_drop, List.length_take]; rfl)) ?_; (with_reducible refine (ip4_Parse.calls (strOfNums y235) t236 t237 t238 t239 t240 t241 t242 t243 t244 t245 t246 _ A27.out).mono ?_); rintro e w37 ⟨rfl, hb⟩; (try clear A27); refine ⟨_, rfl, ?_⟩; have n0_ := Aside0.mk (Kb.Q_below (by (with_reducible repeat (first | apply Kb.Q_alloc | apply Kb.Q_drewN | apply Kb.Q_drew)); exact HO233.out) hb); have n1_ := Aside0.mk (blk_below (g := gb227) (o := .cells #[.int .i64 a0_0, .int .i64 a0_1, .int .i64 a0_2, .int .i64 a0_3, .int .i64 a0_4, .int .i64 a0_5, .int .u32 a0_6, .int .u32 a0_7, .string a0_8] 24 (0, 0)) (by (with_reducible repeat (first | refine blk_drewN ?_ _ | refine blk_drew ?_ | refine blk_alloc ?_ _)); exact BK227.out) hb); have n2_ := Aside0.mk (below_step (by repeat (first | (with_reducible first | exact HB.out | apply below_alloc | apply pw_below_drewN | apply below_drew1 | refine below_set ?_ GE227.out) | exact HB.out)) hb); clear HO233; clear BK227; clear HB; have HO233 := n0_; have BK227 := n1_; have HB := n2_; clear n0_ n1_ n2_; (try clear hb); (try clear hb2); (try clear hk); (try clear hi)) | ((with_reducible refine gate_dst (N := 11) rfl ?_); (try (refine gate_guard (by rfl) ?_; dsimp only)); refine box_event ?hg (N := 11) ?hd (cs := #[.int .i64 0, .int .i64 0, .int .i64 0, .int .i64 0, .int .i64 0, .int .i64 0, .int .u32 0, .int .u32 0, .string (⟨#[]⟩ : ByteArray)]) (t := 24) ?hr ?_; (case hd => rfl); (case hg => rfl); (case hr => first | (go_simp; done) | (go_simp; rfl)); intro gb247 hg w38 hbox hb; have n0_ := Aside0.mk (Kb.Q_below (by (with_reducible repeat (first | apply Kb.Q_alloc | apply Kb.Q_drewN | apply Kb.Q_drew)); exact HO233.out) hb); have n1_ := Aside0.mk (blk_below (g := gb227) (o := .cells #[.int .i64 a0_0, .int .i64 a0_1, .int .i64 a0_2, .int .i64 a0_3, .int .i64 a0_4, .int .i64 a0_5, .int .u32 a0_6, .int .u32 a0_7, .string a0_8] 24 (0, 0)) (by (with_reducible repeat (first | refine blk_drewN ?_ _ | refine blk_drew ?_ | refine blk_alloc ?_ _)); exact BK227.out) hb); have n2_ := Aside0.mk (below_step (by repeat (first | (with_reducible first | exact HB.out | apply below_alloc | apply pw_below_drewN | apply below_drew1 | refine below_set ?_ GE227.out) | exact HB.out)) hb); have n3_ := Aside0.mk (hbox); have n4_ := Aside0.mk ((by rw [hg]; exact (below_size (by repeat (first | (with_reducible first | exact HB.out | apply below_alloc | apply pw_below_drewN | apply below_drew1 | refine below_set ?_ GE227.out) | exact HB.out))) : w.heap.size ≤ gb247)); have n5_ := Aside0.mk ((by rw [hg]; exact (below_size (by repeat (first | (with_reducible first | exact HB.out | apply below_alloc | apply pw_below_drewN | apply below_drew1 | refine below_set ?_ GE227.out) | exact HB.out))) : w.heap.size ≤ gb247)); have n6_ := Aside0.mk ((by rw [hg]; exact Nat.ne_of_lt (blk_lt (g := gb227) (o := .cells #[.int .i64 a0_0, .int .i64 a0_1, .int .i64 a0_2, .int .i64 a0_3, .int .i64 a0_4, .int .i64 a0_5, .int .u32 a0_6, .int .u32 a0_7, .string a0_8] 24 (0, 0)) (by (with_reducible repeat (first | refine blk_drewN ?_ _ | refine blk_drew ?_ | refine blk_alloc ?_ _)); exact BK227.out)) : gb227 ≠ gb247)); have n7_ := Aside0.mk ((by rw [hg]; exact Nat.ne_of_gt (blk_lt (g := gb227) (o := .cells #[.int .i64 a0_0, .int .i64 a0_1, .int .i64 a0_2, .int .i64 a0_3, .int .i64 a0_4, .int .i64 a0_5, .int .u32 a0_6, .int .u32 a0_7, .string a0_8] 24 (0, 0)) (by (with_reducible repeat (first | refine blk_drewN ?_ _ | refine blk_drew ?_ | refine blk_alloc ?_ _)); exact BK227.out)) : gb247 ≠ gb227)); clear HO233; clear BK227; clear HB; have HO233 := n0_; have BK227 := n1_; have HB := n2_; have BK247 := n3_; have GW247 := n4_; have GE247 := n5_; have NB227_247 := n6_; have NB247_227 := n7_; clear n0_ n1_ n2_ n3_ n4_ n5_ n6_ n7_; clear hb hbox hg; have hnb39 := NB247_227.out; have hnc39 := NB227_247.out; have hcz40_0 : w38.cell? ⟨gb247, 0, none⟩ = some (.int .i64 0) := (blk_cell BK247.out 0).trans rfl; have hcz40_1 : w38.cell? ⟨gb247, 1, none⟩ = some (.int .i64 0) := (blk_cell BK247.out 1).trans rfl; have hcz40_2 : w38.cell? ⟨gb247, 2, none⟩ = some (.int .i64 0) := (blk_cell BK247.out 2).trans rfl; have hcz40_3 : w38.cell? ⟨gb247, 3, none⟩ = some (.int .i64 0) := (blk_cell BK247.out 3).trans rfl; have hcz40_4 : w38.cell? ⟨gb247, 4, none⟩ = some (.int .i64 0) := (blk_cell BK247.out 4).trans rfl; have hcz40_5 : w38.cell? ⟨gb247, 5, none⟩ = some (.int .i64 0) := (blk_cell BK247.out 5).trans rfl; have hcz40_6 : w38.cell? ⟨gb247, 6, none⟩ = some (.int .u32 0) := (blk_cell BK247.out 6).trans rfl; have hcz40_7 : w38.cell? ⟨gb247, 7, none⟩ = some (.int .u32 0) := (blk_cell BK247.out 7).trans rfl; have hcz40_8 : w38.cell? ⟨gb247, 8, none⟩ = some (.string (⟨#[]⟩ : ByteArray)) := (blk_cell BK247.out 8).trans rfl; have hfz40_0 := blk_frozen BK247.out 0; have hfz40_1 := blk_frozen BK247.out 1; have hfz40_2 := blk_frozen BK247.out 2; have hfz40_3 := blk_frozen BK247.out 3; have hfz40_4 := blk_frozen BK247.out 4; have hfz40_5 := blk_frozen BK247.out 5; have hfz40_6 := blk_frozen BK247.out 6; have hfz40_7 := blk_frozen BK247.out 7; have hfz40_8 := blk_frozen BK247.out 8))
                          go_ret
                          exact ⟨by first | rfl | (simp [errW_none, errW_some] <;> rfl) | (simp only [← hji20, ← hji23, ← hji25]; first | rfl | (simp [errW_none, errW_some] <;> rfl)) | (simp [*, errW_none, errW_some] <;> rfl), by repeat (first | (with_reducible first | exact HB.out | apply below_alloc | apply pw_below_drewN | apply below_drew1 | refine below_set ?_ GE227.out | refine below_set ?_ GE247.out) | exact HB.out)⟩
                      · rw [if_neg c24] at H
                        exact absurd H (by simp)
                    · rw [if_neg c22] at H
                      exact absurd H (by simp)
                  · rw [if_neg c21] at H
                    exact absurd H (by simp)
                · rw [if_neg c19] at H
                  exact absurd H (by simp)
              · rw [if_neg c18] at H
                have c18b0 : decide ((Int.tmod (wrap64 (-(wrap64 (a2 + 1)))) (wrap64 (8 * (wrap64 (20 + (a0_8.size : Int)))))) < 4) = false := decide_eq_false c18
                clear c18
                by_cases c41 : t229.size ≤ 281474976710656
                · rw [if_pos c41] at H
                  have c41b0 := eq_true c41
                  have c41b1 : decide (t229.size ≤ 281474976710656) = true := decide_eq_true c41
                  clear c41
                  obtain ⟨y248, hy248⟩ : ∃ y_ : List Int, y_ = (numsOf t229) := ⟨_, rfl⟩
                  replace H : (if 0 ≤ (wrap64 (Int.tdiv (Int.tmod (wrap64 (-(wrap64 (a2 + 1)))) (wrap64 (8 * (wrap64 (20 + (a0_8.size : Int)))))) 8)) then (if (wrap64 (Int.tdiv (Int.tmod (wrap64 (-(wrap64 (a2 + 1)))) (wrap64 (8 * (wrap64 (20 + (a0_8.size : Int)))))) 8)) < (y248.length : Int) then (if 0 ≤ (Int.tmod (Int.tmod (wrap64 (-(wrap64 (a2 + 1)))) (wrap64 (8 * (wrap64 (20 + (a0_8.size : Int)))))) 8) then ((ip4_Parse.f (strOfNums (y248.set ((wrap64 (Int.tdiv (Int.tmod (wrap64 (-(wrap64 (a2 + 1)))) (wrap64 (8 * (wrap64 (20 + (a0_8.size : Int)))))) 8)) : Int).toNat (Go.bits .xor .u8 (rd y248 (wrap64 (Int.tdiv (Int.tmod (wrap64 (-(wrap64 (a2 + 1)))) (wrap64 (8 * (wrap64 (20 + (a0_8.size : Int)))))) 8))) (shl .u8 1 (Int.tmod (Int.tmod (wrap64 (-(wrap64 (a2 + 1)))) (wrap64 (8 * (wrap64 (20 + (a0_8.size : Int)))))) 8)))))).bind fun bt253 => (if true = true then (some (bt253.2.2.2.2.2.2.2.2.2.2 != 0)) else (some false))) else (none)) else (none)) else (none)) = some r := by first | (rw [hy248]; with_reducible exact H) | (have H2_ := (Option.bind_some _ _).symm.trans H; rw [hy248]; with_reducible exact H2_) | (have H2_ := (Option.bind_some _ _).symm.trans H; with_reducible exact H2_) | with_reducible exact H | (rw [hy248]; exact H) | exact H
                  have Ny248 := Aside0.mk hy248
                  clear hy248
                  obtain ⟨ji42, hji42⟩ : ∃ j_ : Int, (wrap64 (Int.tdiv (Int.tmod (wrap64 (-(wrap64 (a2 + 1)))) (wrap64 (8 * (wrap64 (20 + (a0_8.size : Int)))))) 8)) = j_ := ⟨_, rfl⟩
                  replace H : (if 0 ≤ (ji42) then (if (ji42) < (y248.length : Int) then (if 0 ≤ (Int.tmod (Int.tmod (wrap64 (-(wrap64 (a2 + 1)))) (wrap64 (8 * (wrap64 (20 + (a0_8.size : Int)))))) 8) then ((ip4_Parse.f (strOfNums (y248.set ((ji42) : Int).toNat (Go.bits .xor .u8 (rd y248 (ji42)) (shl .u8 1 (Int.tmod (Int.tmod (wrap64 (-(wrap64 (a2 + 1)))) (wrap64 (8 * (wrap64 (20 + (a0_8.size : Int)))))) 8)))))).bind fun bt253 => (if true = true then (some (bt253.2.2.2.2.2.2.2.2.2.2 != 0)) else (some false))) else (none)) else (none)) else (none)) = some r := by first | (rw [hji42] at H; exact H) | (simp only [hji42] at H ⊢; exact H)
                  have hji42w : (IntKind.i64.wrap (Int.tdiv (Int.tmod (wrap64 (-(wrap64 (a2 + 1)))) (wrap64 (8 * (wrap64 (20 + (a0_8.size : Int)))))) 8)) = ji42 := (i64_w _).trans hji42
                  by_cases c43 : 0 ≤ (ji42)
                  · rw [if_pos c43] at H
                    have c43b0 : decide (0 ≤ (ji42)) = true := decide_eq_true c43
                    clear c43
                    by_cases c44 : (ji42) < (y248.length : Int)
                    · rw [if_pos c44] at H
                      have c44b0 : decide ((ji42) < (y248.length : Int)) = true := decide_eq_true c44
                      clear c44
                      obtain ⟨ji45, hji45⟩ : ∃ j_ : Int, (Int.tmod (Int.tmod (wrap64 (-(wrap64 (a2 + 1)))) (wrap64 (8 * (wrap64 (20 + (a0_8.size : Int)))))) 8) = j_ := ⟨_, rfl⟩
                      replace H : (if 0 ≤ (ji45) then ((ip4_Parse.f (strOfNums (y248.set ((ji42) : Int).toNat (Go.bits .xor .u8 (rd y248 (ji42)) (shl .u8 1 (ji45)))))).bind fun bt253 => (if true = true then (some (bt253.2.2.2.2.2.2.2.2.2.2 != 0)) else (some false))) else (none)) = some r := by first | (rw [hji45] at H; exact H) | (simp only [hji45] at H ⊢; exact H)
                      by_cases c46 : 0 ≤ (ji45)
                      · rw [if_pos c46] at H
                        have c46b0 := eq_true c46
                        have c46b1 : decide (0 ≤ (ji45)) = true := decide_eq_true c46
                        clear c46
                        obtain ⟨ji47, hji47⟩ : ∃ j_ : Int, (shl .u8 1 (ji45)) = j_ := ⟨_, rfl⟩
                        replace H : ((ip4_Parse.f (strOfNums (y248.set ((ji42) : Int).toNat (Go.bits .xor .u8 (rd y248 (ji42)) (ji47))))).bind fun bt253 => (if true = true then (some (bt253.2.2.2.2.2.2.2.2.2.2 != 0)) else (some false))) = some r := by first | (rw [hji47] at H; exact H) | (simp only [hji47] at H ⊢; exact H)
                        have hji47_ : (IntKind.u8.wrap (1 * 2 ^ min (ji45).toNat 8)) = ji47 := hji47
                        have hji47z : (ji45) ≤ 8 → (IntKind.u8.wrap (1 * 2 ^ (ji45).toNat)) = ji47 := shl_small hji47
                        have hji47u : (IntKind.u8.wrap (2 ^ min (ji45).toNat 8)) = ji47 := by have h_ := hji47_; rw [Int.one_mul] at h_; exact h_
                        have hji47v : (ji45) ≤ 8 → (IntKind.u8.wrap (2 ^ (ji45).toNat)) = ji47 := fun hle_ => by have h_ := hji47z hle_; rw [Int.one_mul] at h_; exact h_
                        obtain ⟨y252, hy252⟩ : ∃ y_ : List Int, y_ = (y248.set ((ji42) : Int).toNat (Go.bits .xor .u8 (rd y248 (ji42)) (ji47))) := ⟨_, rfl⟩
                        replace H : ((ip4_Parse.f (strOfNums y252)).bind fun bt253 => (if true = true then (some (bt253.2.2.2.2.2.2.2.2.2.2 != 0)) else (some false))) = some r := by first | (rw [hy252]; with_reducible exact H) | (have H2_ := (Option.bind_some _ _).symm.trans H; rw [hy252]; with_reducible exact H2_) | (have H2_ := (Option.bind_some _ _).symm.trans H; with_reducible exact H2_) | with_reducible exact H | (rw [hy252]; exact H) | exact H
                        have Ny252 := Aside0.mk hy252
                        clear hy252
                        replace H := Option.bind_eq_some_iff.mp H
                        obtain ⟨⟨t253, t254, t255, t256, t257, t258, t259, t260, t261, t262, t263⟩, A490, H⟩ := H
                        replace H : (if true = true then (some (t263 != 0)) else (some false)) = some r := H
                        have A49 := Aside0.mk A490
                        clear A490
                        have c50 : true = true := rfl
                        · clear c50
                          have H1 : (some (t263 != 0)) = some r := by first | (rw [if_pos rfl] at H; exact H) | (rw [if_pos trivial] at H; exact H)
                          clear H
                          have H := H1
                          clear H1
                          obtain rfl := Option.some.inj H
                          have hcz51_0 : wc.cell? ⟨gb227, 0, none⟩ = some (.int .i64 a0_0) := (blk_cell BK227.out 0).trans rfl
                          have hcz51_1 : wc.cell? ⟨gb227, 1, none⟩ = some (.int .i64 a0_1) := (blk_cell BK227.out 1).trans rfl
                          have hcz51_2 : wc.cell? ⟨gb227, 2, none⟩ = some (.int .i64 a0_2) := (blk_cell BK227.out 2).trans rfl
                          have hcz51_3 : wc.cell? ⟨gb227, 3, none⟩ = some (.int .i64 a0_3) := (blk_cell BK227.out 3).trans rfl
                          have hcz51_4 : wc.cell? ⟨gb227, 4, none⟩ = some (.int .i64 a0_4) := (blk_cell BK227.out 4).trans rfl
                          have hcz51_5 : wc.cell? ⟨gb227, 5, none⟩ = some (.int .i64 a0_5) := (blk_cell BK227.out 5).trans rfl
                          have hcz51_6 : wc.cell? ⟨gb227, 6, none⟩ = some (.int .u32 a0_6) := (blk_cell BK227.out 6).trans rfl
                          have hcz51_7 : wc.cell? ⟨gb227, 7, none⟩ = some (.int .u32 a0_7) := (blk_cell BK227.out 7).trans rfl
                          have hcz51_8 : wc.cell? ⟨gb227, 8, none⟩ = some (.string a0_8) := (blk_cell BK227.out 8).trans rfl
                          have hfz51_0 := blk_frozen BK227.out 0
                          have hfz51_1 := blk_frozen BK227.out 1
                          have hfz51_2 := blk_frozen BK227.out 2
                          have hfz51_3 := blk_frozen BK227.out 3
                          have hfz51_4 := blk_frozen BK227.out 4
                          have hfz51_5 := blk_frozen BK227.out 5
                          have hfz51_6 := blk_frozen BK227.out 6
                          have hfz51_7 := blk_frozen BK227.out 7
                          have hfz51_8 := blk_frozen BK227.out 8
                          try go_wp2_with (first | ((with_reducible refine gate_dst (N := 56) rfl ?_); (try (refine gate_guard (by rfl) ?_; dsimp only)); refine Kb.Q_conv (Kd.int .u8) 5 rfl (N := 56) rfl 9 42 _ rfl t229 rfl Try.underlying9 Try.underlying42 Try.underlying5 (ok := fun _ => True) trivial (of_decide_eq_true (by first | (with_reducible assumption) | assumption)) ?_; intro v249 w52 ho53 hb hg_ hnew_; clear hg_ hnew_; (first | rw [← Ny248.out] at ho53 | (simp only [Int.reduceToNat] at ho53; rw [← Ny248.out] at ho53)); have n0_ := Aside0.mk (Kb.Q_lower ho53 (below_size (by repeat (first | (with_reducible first | exact HB.out | apply below_alloc | apply pw_below_drewN | apply below_drew1 | refine below_set ?_ GE227.out) | exact HB.out)))); have n1_ := Aside0.mk (blk_below (g := gb227) (o := .cells #[.int .i64 a0_0, .int .i64 a0_1, .int .i64 a0_2, .int .i64 a0_3, .int .i64 a0_4, .int .i64 a0_5, .int .u32 a0_6, .int .u32 a0_7, .string a0_8] 24 (0, 0)) (by (with_reducible repeat (first | refine blk_drewN ?_ _ | refine blk_drew ?_ | refine blk_alloc ?_ _)); exact BK227.out) hb); have n2_ := Aside0.mk (below_step (by repeat (first | (with_reducible first | exact HB.out | apply below_alloc | apply pw_below_drewN | apply below_drew1 | refine below_set ?_ GE227.out) | exact HB.out)) hb); clear BK227; clear HB; have HO250 := n0_; have BK227 := n1_; have HB := n2_; clear n0_ n1_ n2_; clear hb ho53))
                          have n0_ := Aside0.mk (Kb.Q_drew HO250.out)
                          have n1_ := Aside0.mk (blk_drew BK227.out)
                          have n2_ := Aside0.mk (below_drew1 HB.out)
                          clear HO250
                          clear BK227
                          clear HB
                          have HO250 := n0_
                          have BK227 := n1_
                          have HB := n2_
                          clear n0_ n1_ n2_
                          obtain ⟨Ao55, co55, eo55, _⟩ := Kb.Q_slice HO250.out
                          (first | subst eo55 | (injection eo55 with f1_ f2_ f3_; have f4_ := f1_.symm; have f5_ := f3_.symm; clear f1_ f2_ f3_; subst f4_; subst f5_))
                          have p251 : 0 ≤ ((ji42) : Int) := of_decide_eq_true (by first | (with_reducible assumption) | assumption)
                          have q251 : (ji42) < (y248.length : Int) := of_decide_eq_true (by first | (with_reducible assumption) | assumption)
                          obtain ⟨ad251, e251, hx251_0⟩ := Kd.at_int (Kb.Q_reads' HO250.out).2.2 (ji42) p251 q251
                          cases e251
                          replace p251 := eq_true p251
                          replace q251 := eq_true q251
                          have p48 : 0 ≤ ((ji42) : Int) := of_decide_eq_true (by first | (with_reducible assumption) | assumption)
                          have q48 : ((ji42) : Int) < ((y248.length : Int) : Int) := of_decide_eq_true (by first | (with_reducible assumption) | assumption)
                          obtain ⟨go48, co48, eo48, gb48, gl48, cl48, HG48⟩ := Kb.Q_form HO250.out (by omega)
                          (first | cases eo48 | (injection eo48 with ea_ en_ ec_; (first | subst ea_ | (injection ea_ with ea_; subst ea_)); subst ec_; clear en_))
                          have GB48 := Aside0.mk gb48
                          have GG48 := Aside0.mk HG48
                          clear gb48 gl48 HG48
                          (first | simp only [add_at, Nat.zero_add] at hx251_0 | skip)
                          obtain ⟨hx48_0, hf48_0⟩ := Kb.Q_cell 0 HO250.out ((ji42) : Int) p48 q48
                          replace p48 := eq_true p48
                          replace q48 := eq_true q48
                          have HP56 := (Kb.Q_putg HO250.out ((ji42) : Int) (of_decide_eq_true (by first | (with_reducible assumption) | assumption)) (by have h_ : ((ji42) : Int) < ((y248.length : Int) : Int) := of_decide_eq_true (by first | (with_reducible assumption) | assumption); first | exact h_ | (have e_ := (Kb.Q_reads' HO250.out).1; omega) | simpa using h_) (Go.bits .xor .u8 (rd y248 (ji42)) (ji47))).1
                          rw [← Ny252.out] at HP56
                          have HQ56 := Aside0.mk HP56
                          clear HP56
                          refine start_ (n := 14) (S := fun w' => w'.cell? ⟨go48, ((ji42)).toNat, none⟩ = some (.int .u8 (rd y248 (ji42)))) (ds := [13]) #[false, false, false, false, false, false, false, false, false, false, false, false, false, false] (by kernel_rfl) rfl rfl (hx251_0) (fun hHeld => ?_); refine with_tabW weighbridgelaw04_Ip4Bit.tab13 weighbridgelaw04_Ip4Bit.bits13 (fun HT_ HW_ => ?_)
                          generalize w52.drew = w54 at HO250 BK227 HB GG48 HQ56 hf48_0 hx251_0 hx48_0 hHeld ⊢
                          refine pure_ (i := 0) (N := some 57) (v := ?_) (a' := ?_) #[true, false, false, false, false, false, false, false, false, false, false, false, false, false] rfl rfl (any_of HT_.out (by kernel_rfl)) (fun _ _ _ h => h) (Or.inl ⟨by rfl, ?_⟩) ?_ ?_
                          rotate_left
                          · intro w'
                            go_simp
                            with_reducible rfl
                          rotate_left
                          · simp only [Act.put, List.setIfInBounds_toArray, List.set_cons_zero, List.set_cons_succ, i64_w, i32_w]
                            rfl
                          refine pure_ (i := 1) (N := some 58) (v := ?_) (a' := ?_) #[true, true, false, false, false, false, false, false, false, false, false, false, false, false] rfl rfl (any_of HT_.out (by kernel_rfl)) (fun _ _ _ h => h) (Or.inl ⟨by rfl, ?_⟩) ?_ ?_
                          rotate_left
                          · intro w'
                            go_simp
                            with_reducible rfl
                          rotate_left
                          · simp only [Act.put, List.setIfInBounds_toArray, List.set_cons_zero, List.set_cons_succ, i64_w, i32_w]
                            rfl
                          refine pure_ (i := 2) (N := some 59) (v := ?_) (a' := ?_) #[true, true, true, false, false, false, false, false, false, false, false, false, false, false] rfl rfl (any_of HT_.out (by kernel_rfl)) (fun _ _ _ h => h) (Or.inl ⟨by rfl, ?_⟩) ?_ ?_
                          rotate_left
                          · intro w'
                            go_simp
                            with_reducible rfl
                          rotate_left
                          · simp only [Act.put, List.setIfInBounds_toArray, List.set_cons_zero, List.set_cons_succ, i64_w, i32_w]
                            rfl
                          refine pure_ (i := 3) (N := some 60) (v := ?_) (a' := ?_) #[true, true, true, true, false, false, false, false, false, false, false, false, false, false] rfl rfl (any_of HT_.out (by kernel_rfl)) (fun _ _ _ h => h) (Or.inl ⟨by rfl, ?_⟩) ?_ ?_
                          rotate_left
                          · intro w'
                            go_simp
                            with_reducible rfl
                          rotate_left
                          · simp only [Act.put, List.setIfInBounds_toArray, List.set_cons_zero, List.set_cons_succ, i64_w, i32_w]
                            rfl
                          refine pure_ (i := 4) (N := some 61) (v := ?_) (a' := ?_) #[true, true, true, true, true, false, false, false, false, false, false, false, false, false] rfl rfl (any_of HT_.out (by kernel_rfl)) (fun _ _ _ h => h) (Or.inl ⟨by rfl, ?_⟩) ?_ ?_
                          rotate_left
                          · intro w'
                            go_simp
                            with_reducible rfl
                          rotate_left
                          · simp only [Act.put, List.setIfInBounds_toArray, List.set_cons_zero, List.set_cons_succ, i64_w, i32_w]
                            rfl
                          refine pure_ (i := 5) (N := some 62) (v := ?_) (a' := ?_) #[true, true, true, true, true, true, false, false, false, false, false, false, false, false] rfl rfl (any_of HT_.out (by kernel_rfl)) (fun _ _ _ h => h) (Or.inl ⟨by rfl, ?_⟩) ?_ ?_
                          rotate_left
                          · intro w'
                            go_simp
                            with_reducible rfl
                          rotate_left
                          · simp only [Act.put, List.setIfInBounds_toArray, List.set_cons_zero, List.set_cons_succ, i64_w, i32_w]
                            rfl
                          refine pure_ (i := 6) (N := some 63) (v := ?_) (a' := ?_) #[true, true, true, true, true, true, true, false, false, false, false, false, false, false] rfl rfl (any_of HT_.out (by kernel_rfl)) (fun _ _ _ h => h) (Or.inl ⟨by rfl, ?_⟩) ?_ ?_
                          rotate_left
                          · intro w'
                            go_simp
                            with_reducible rfl
                          rotate_left
                          · simp only [Act.put, List.setIfInBounds_toArray, List.set_cons_zero, List.set_cons_succ, i64_w, i32_w]
                            rfl
                          refine pure_ (i := 8) (N := some 65) (v := ?_) (a' := ?_) #[true, true, true, true, true, true, true, false, true, false, false, false, false, false] rfl rfl (any_of HT_.out (by kernel_rfl)) (fun _ _ _ h => h) (Or.inl ⟨by rfl, ?_⟩) ?_ ?_
                          rotate_left
                          · intro w'
                            go_simp
                            with_reducible rfl
                          rotate_left
                          · simp only [Act.put, List.setIfInBounds_toArray, List.set_cons_zero, List.set_cons_succ, i64_w, i32_w]
                            rfl
                          refine pure_ (i := 9) (N := some 66) (v := ?_) (a' := ?_) #[true, true, true, true, true, true, true, false, true, true, false, false, false, false] rfl rfl (any_of HT_.out (by kernel_rfl)) (fun _ _ _ h => h) (Or.inl ⟨by rfl, ?_⟩) ?_ ?_
                          rotate_left
                          · intro w'
                            go_simp
                            with_reducible rfl
                          rotate_left
                          · simp only [Act.put, List.setIfInBounds_toArray, List.set_cons_zero, List.set_cons_succ, i64_w, i32_w]
                            rfl
                          refine pure_ (i := 10) (N := some 67) (v := ?_) (a' := ?_) #[true, true, true, true, true, true, true, false, true, true, true, false, false, false] rfl rfl (any_of HT_.out (by kernel_rfl)) (fun _ _ _ h => h) (Or.inl ⟨by rfl, ?_⟩) ?_ ?_
                          rotate_left
                          · intro w'
                            go_simp
                            with_reducible rfl
                          rotate_left
                          · simp only [Act.put, List.setIfInBounds_toArray, List.set_cons_zero, List.set_cons_succ, i64_w, i32_w]
                            rfl
                          refine take_ (i := 7) (N := some 64) (v := ?_) (a' := ?_) #[true, true, true, true, true, true, true, true, true, true, true, false, false, false] rfl rfl (take_ofW HT_.out HW_.out (by kernel_rfl)) (fun _ _ _ h => h) (Or.inl ⟨by rfl, ?_⟩) hHeld ?_ ?_
                          rotate_left
                          · intro w' s0
                            go_simp
                            with_reducible rfl
                          rotate_left
                          · simp only [Act.put, List.setIfInBounds_toArray, List.set_cons_zero, List.set_cons_succ, i64_w, i32_w]
                            rfl
                          refine pure_ (i := 11) (N := some 68) (v := ?_) (a' := ?_) #[true, true, true, true, true, true, true, true, true, true, true, true, false, false] rfl rfl (any_of HT_.out (by kernel_rfl)) (fun _ _ _ h => h) (Or.inl ⟨by rfl, ?_⟩) ?_ ?_
                          rotate_left
                          · intro w'
                            go_simp
                            with_reducible rfl
                          rotate_left
                          · simp only [Act.put, List.setIfInBounds_toArray, List.set_cons_zero, List.set_cons_succ, i64_w, i32_w]
                            rfl
                          refine pure_ (i := 12) (N := some 69) (v := ?_) (a' := ?_) #[true, true, true, true, true, true, true, true, true, true, true, true, true, false] rfl rfl (any_of HT_.out (by kernel_rfl)) (fun _ _ _ h => h) (Or.inl ⟨by rfl, ?_⟩) ?_ ?_
                          rotate_left
                          · intro w'
                            go_simp
                            with_reducible rfl
                          rotate_left
                          · simp only [Act.put, List.setIfInBounds_toArray, List.set_cons_zero, List.set_cons_succ, i64_w, i32_w]
                            rfl
                          refine last_ (i := 13) (N := none) #[true, true, true, true, true, true, true, true, true, true, true, true, true, true] rfl rfl (one_of HT_.out (by kernel_rfl)) (by decide) (fun K hK => ?_)
                          refine skip_ (w1 := ?_) (by rfl) rfl ?_ ?_
                          rotate_left
                          · go_simp
                            rfl
                          refine hK.out _ _ ?_
                          clear hK K
                          refine done_ (done_of HT_.out (by kernel_rfl)) ?_
                          have n0_ : Aside0 (Kb.Q (Kd.int .u8) 5 (w54.setCell ⟨go48, ((ji42) : Int).toNat, none⟩ (.int .u8 (Go.bits .xor .u8 (rd y248 (ji42)) (ji47)))) w.heap.size (fun _ => True) (.slice (some ⟨go48, 0, none⟩) y248.length co55) y252) := ⟨by (with_reducible repeat (first | apply Kb.Q_alloc | apply Kb.Q_drewN | apply Kb.Q_drew)); exact HQ56.out⟩
                          have n1_ : Aside0 ((w54.setCell ⟨go48, ((ji42) : Int).toNat, none⟩ (.int .u8 (Go.bits .xor .u8 (rd y248 (ji42)) (ji47)))).heap[gb227]? = some (.cells #[.int .i64 a0_0, .int .i64 a0_1, .int .i64 a0_2, .int .i64 a0_3, .int .i64 a0_4, .int .i64 a0_5, .int .u32 a0_6, .int .u32 a0_7, .string a0_8] 24 (0, 0))) := ⟨by (with_reducible repeat (first | refine blk_drewN ?_ _ | refine blk_drew ?_ | refine blk_alloc ?_ _)); refine blk_far ?_ (by have h_ := Kb.Q_ne HO250.out BK227.out (by decide); intro e_; exact h_ (by rw [e_]; rfl)) _; (with_reducible repeat (first | refine blk_drewN ?_ _ | refine blk_drew ?_ | refine blk_alloc ?_ _)); exact BK227.out⟩
                          have n2_ : Aside0 (Below w.heap.size w (w54.setCell ⟨go48, ((ji42) : Int).toNat, none⟩ (.int .u8 (Go.bits .xor .u8 (rd y248 (ji42)) (ji47))))) := ⟨by repeat (first | (with_reducible first | exact HB.out | apply below_alloc | apply pw_below_drewN | apply below_drew1 | refine below_set ?_ GB48.out | refine below_set ?_ GE227.out) | exact HB.out)⟩
                          (try clear HO250)
                          (try clear BK227)
                          (try clear HB)
                          generalize (w54.setCell ⟨go48, ((ji42) : Int).toNat, none⟩ (.int .u8 (Go.bits .xor .u8 (rd y248 (ji42)) (ji47)))) = w57 at n0_ n1_ n2_ ⊢
                          have HO250 := n0_
                          have BK227 := n1_
                          have HB := n2_
                          clear n0_ n1_ n2_
                          have hcv58 := Kb.Q_string (P := Try.prog) Try.underlying42 Try.underlying5 Try.underlying9 (by exact HO250.out)
                          try go_wp2_with (first | ((with_reducible refine gate_callee (f := 18) rfl ?_); refine goesL_ (some 73) rfl rfl Try.func18 (by kernel_rfl) rfl #[.string (strOfNums y252)] rfl (by (try simp only [List.map_toArray, List.map_cons, List.map_nil]); first | done | rfl | (simp only [List.length_drop, List.length_take]; rfl)) ?_; (with_reducible refine (ip4_Parse.calls (strOfNums y252) t253 t254 t255 t256 t257 t258 t259 t260 t261 t262 t263 _ A49.out).mono ?_); rintro e w59 ⟨rfl, hb⟩; (try clear A49); refine ⟨_, rfl, ?_⟩; have n0_ := Aside0.mk (Kb.Q_below (by (with_reducible repeat (first | apply Kb.Q_alloc | apply Kb.Q_drewN | apply Kb.Q_drew)); exact HO250.out) hb); have n1_ := Aside0.mk (blk_below (g := gb227) (o := .cells #[.int .i64 a0_0, .int .i64 a0_1, .int .i64 a0_2, .int .i64 a0_3, .int .i64 a0_4, .int .i64 a0_5, .int .u32 a0_6, .int .u32 a0_7, .string a0_8] 24 (0, 0)) (by (with_reducible repeat (first | refine blk_drewN ?_ _ | refine blk_drew ?_ | refine blk_alloc ?_ _)); exact BK227.out) hb); have n2_ := Aside0.mk (below_step (by repeat (first | (with_reducible first | exact HB.out | apply below_alloc | apply pw_below_drewN | apply below_drew1 | refine below_set ?_ GE227.out) | exact HB.out)) hb); clear HO250; clear BK227; clear HB; have HO250 := n0_; have BK227 := n1_; have HB := n2_; clear n0_ n1_ n2_; (try clear hb); (try clear hb2); (try clear hk); (try clear hi)) | ((with_reducible refine gate_dst (N := 11) rfl ?_); (try (refine gate_guard (by rfl) ?_; dsimp only)); refine box_event ?hg (N := 11) ?hd (cs := #[.int .i64 0, .int .i64 0, .int .i64 0, .int .i64 0, .int .i64 0, .int .i64 0, .int .u32 0, .int .u32 0, .string (⟨#[]⟩ : ByteArray)]) (t := 24) ?hr ?_; (case hd => rfl); (case hg => rfl); (case hr => first | (go_simp; done) | (go_simp; rfl)); intro gb264 hg w60 hbox hb; have n0_ := Aside0.mk (Kb.Q_below (by (with_reducible repeat (first | apply Kb.Q_alloc | apply Kb.Q_drewN | apply Kb.Q_drew)); exact HO250.out) hb); have n1_ := Aside0.mk (blk_below (g := gb227) (o := .cells #[.int .i64 a0_0, .int .i64 a0_1, .int .i64 a0_2, .int .i64 a0_3, .int .i64 a0_4, .int .i64 a0_5, .int .u32 a0_6, .int .u32 a0_7, .string a0_8] 24 (0, 0)) (by (with_reducible repeat (first | refine blk_drewN ?_ _ | refine blk_drew ?_ | refine blk_alloc ?_ _)); exact BK227.out) hb); have n2_ := Aside0.mk (below_step (by repeat (first | (with_reducible first | exact HB.out | apply below_alloc | apply pw_below_drewN | apply below_drew1 | refine below_set ?_ GE227.out) | exact HB.out)) hb); have n3_ := Aside0.mk (hbox); have n4_ := Aside0.mk ((by rw [hg]; exact (below_size (by repeat (first | (with_reducible first | exact HB.out | apply below_alloc | apply pw_below_drewN | apply below_drew1 | refine below_set ?_ GE227.out) | exact HB.out))) : w.heap.size ≤ gb264)); have n5_ := Aside0.mk ((by rw [hg]; exact (below_size (by repeat (first | (with_reducible first | exact HB.out | apply below_alloc | apply pw_below_drewN | apply below_drew1 | refine below_set ?_ GE227.out) | exact HB.out))) : w.heap.size ≤ gb264)); have n6_ := Aside0.mk ((by rw [hg]; exact Nat.ne_of_lt (blk_lt (g := gb227) (o := .cells #[.int .i64 a0_0, .int .i64 a0_1, .int .i64 a0_2, .int .i64 a0_3, .int .i64 a0_4, .int .i64 a0_5, .int .u32 a0_6, .int .u32 a0_7, .string a0_8] 24 (0, 0)) (by (with_reducible repeat (first | refine blk_drewN ?_ _ | refine blk_drew ?_ | refine blk_alloc ?_ _)); exact BK227.out)) : gb227 ≠ gb264)); have n7_ := Aside0.mk ((by rw [hg]; exact Nat.ne_of_gt (blk_lt (g := gb227) (o := .cells #[.int .i64 a0_0, .int .i64 a0_1, .int .i64 a0_2, .int .i64 a0_3, .int .i64 a0_4, .int .i64 a0_5, .int .u32 a0_6, .int .u32 a0_7, .string a0_8] 24 (0, 0)) (by (with_reducible repeat (first | refine blk_drewN ?_ _ | refine blk_drew ?_ | refine blk_alloc ?_ _)); exact BK227.out)) : gb264 ≠ gb227)); clear HO250; clear BK227; clear HB; have HO250 := n0_; have BK227 := n1_; have HB := n2_; have BK264 := n3_; have GW264 := n4_; have GE264 := n5_; have NB227_264 := n6_; have NB264_227 := n7_; clear n0_ n1_ n2_ n3_ n4_ n5_ n6_ n7_; clear hb hbox hg; have hnb61 := NB264_227.out; have hnc61 := NB227_264.out; have hcz62_0 : w60.cell? ⟨gb264, 0, none⟩ = some (.int .i64 0) := (blk_cell BK264.out 0).trans rfl; have hcz62_1 : w60.cell? ⟨gb264, 1, none⟩ = some (.int .i64 0) := (blk_cell BK264.out 1).trans rfl; have hcz62_2 : w60.cell? ⟨gb264, 2, none⟩ = some (.int .i64 0) := (blk_cell BK264.out 2).trans rfl; have hcz62_3 : w60.cell? ⟨gb264, 3, none⟩ = some (.int .i64 0) := (blk_cell BK264.out 3).trans rfl; have hcz62_4 : w60.cell? ⟨gb264, 4, none⟩ = some (.int .i64 0) := (blk_cell BK264.out 4).trans rfl; have hcz62_5 : w60.cell? ⟨gb264, 5, none⟩ = some (.int .i64 0) := (blk_cell BK264.out 5).trans rfl; have hcz62_6 : w60.cell? ⟨gb264, 6, none⟩ = some (.int .u32 0) := (blk_cell BK264.out 6).trans rfl; have hcz62_7 : w60.cell? ⟨gb264, 7, none⟩ = some (.int .u32 0) := (blk_cell BK264.out 7).trans rfl; have hcz62_8 : w60.cell? ⟨gb264, 8, none⟩ = some (.string (⟨#[]⟩ : ByteArray)) := (blk_cell BK264.out 8).trans rfl; have hfz62_0 := blk_frozen BK264.out 0; have hfz62_1 := blk_frozen BK264.out 1; have hfz62_2 := blk_frozen BK264.out 2; have hfz62_3 := blk_frozen BK264.out 3; have hfz62_4 := blk_frozen BK264.out 4; have hfz62_5 := blk_frozen BK264.out 5; have hfz62_6 := blk_frozen BK264.out 6; have hfz62_7 := blk_frozen BK264.out 7; have hfz62_8 := blk_frozen BK264.out 8))
                          go_ret
                          exact ⟨by first | rfl | (simp [errW_none, errW_some] <;> rfl) | (simp only [← hji42, ← hji45, ← hji47]; first | rfl | (simp [errW_none, errW_some] <;> rfl)) | (simp [*, errW_none, errW_some] <;> rfl), by repeat (first | (with_reducible first | exact HB.out | apply below_alloc | apply pw_below_drewN | apply below_drew1 | refine below_set ?_ GE227.out | refine below_set ?_ GE264.out) | exact HB.out)⟩
                      · rw [if_neg c46] at H
                        exact absurd H (by simp)
                    · rw [if_neg c44] at H
                      exact absurd H (by simp)
                  · rw [if_neg c43] at H
                    exact absurd H (by simp)
                · rw [if_neg c41] at H
                  exact absurd H (by simp)
          · rw [if_neg c16] at H
            have c16b0 : decide (a2 < 0) = false := decide_eq_false c16
            clear c16
            by_cases c63 : (wrap64 (8 * (wrap64 (20 + (a0_8.size : Int))))) = 0
            · rw [if_pos c63] at H
              exact absurd H (by simp)
            · rw [if_neg c63] at H
              have c63b0 : ((wrap64 (8 * (wrap64 (20 + (a0_8.size : Int))))) == 0) = false := beq_eq_false_iff_ne.mpr c63
              have c63b1 : ((wrap64 (8 * (wrap64 (20 + (a0_8.size : Int))))) != 0) = true := bne_iff_ne.mpr c63
              by_cases c64 : (Int.tmod a2 (wrap64 (8 * (wrap64 (20 + (a0_8.size : Int)))))) < 4
              · rw [if_pos c64] at H
                have c64b0 : decide ((Int.tmod a2 (wrap64 (8 * (wrap64 (20 + (a0_8.size : Int)))))) < 4) = true := decide_eq_true c64
                clear c64
                by_cases c65 : t229.size ≤ 281474976710656
                · rw [if_pos c65] at H
                  have c65b0 := eq_true c65
                  have c65b1 : decide (t229.size ≤ 281474976710656) = true := decide_eq_true c65
                  clear c65
                  obtain ⟨y265, hy265⟩ : ∃ y_ : List Int, y_ = (numsOf t229) := ⟨_, rfl⟩
                  replace H : (if 0 ≤ (wrap64 (Int.tdiv (wrap64 ((Int.tmod a2 (wrap64 (8 * (wrap64 (20 + (a0_8.size : Int)))))) + 4)) 8)) then (if (wrap64 (Int.tdiv (wrap64 ((Int.tmod a2 (wrap64 (8 * (wrap64 (20 + (a0_8.size : Int)))))) + 4)) 8)) < (y265.length : Int) then (if 0 ≤ (Int.tmod (wrap64 ((Int.tmod a2 (wrap64 (8 * (wrap64 (20 + (a0_8.size : Int)))))) + 4)) 8) then ((ip4_Parse.f (strOfNums (y265.set ((wrap64 (Int.tdiv (wrap64 ((Int.tmod a2 (wrap64 (8 * (wrap64 (20 + (a0_8.size : Int)))))) + 4)) 8)) : Int).toNat (Go.bits .xor .u8 (rd y265 (wrap64 (Int.tdiv (wrap64 ((Int.tmod a2 (wrap64 (8 * (wrap64 (20 + (a0_8.size : Int)))))) + 4)) 8))) (shl .u8 1 (Int.tmod (wrap64 ((Int.tmod a2 (wrap64 (8 * (wrap64 (20 + (a0_8.size : Int)))))) + 4)) 8)))))).bind fun bt270 => (if true = true then (some (bt270.2.2.2.2.2.2.2.2.2.2 != 0)) else (some false))) else (none)) else (none)) else (none)) = some r := by first | (rw [hy265]; with_reducible exact H) | (have H2_ := (Option.bind_some _ _).symm.trans H; rw [hy265]; with_reducible exact H2_) | (have H2_ := (Option.bind_some _ _).symm.trans H; with_reducible exact H2_) | with_reducible exact H | (rw [hy265]; exact H) | exact H
                  have Ny265 := Aside0.mk hy265
                  clear hy265
                  obtain ⟨ji66, hji66⟩ : ∃ j_ : Int, (wrap64 (Int.tdiv (wrap64 ((Int.tmod a2 (wrap64 (8 * (wrap64 (20 + (a0_8.size : Int)))))) + 4)) 8)) = j_ := ⟨_, rfl⟩
                  replace H : (if 0 ≤ (ji66) then (if (ji66) < (y265.length : Int) then (if 0 ≤ (Int.tmod (wrap64 ((Int.tmod a2 (wrap64 (8 * (wrap64 (20 + (a0_8.size : Int)))))) + 4)) 8) then ((ip4_Parse.f (strOfNums (y265.set ((ji66) : Int).toNat (Go.bits .xor .u8 (rd y265 (ji66)) (shl .u8 1 (Int.tmod (wrap64 ((Int.tmod a2 (wrap64 (8 * (wrap64 (20 + (a0_8.size : Int)))))) + 4)) 8)))))).bind fun bt270 => (if true = true then (some (bt270.2.2.2.2.2.2.2.2.2.2 != 0)) else (some false))) else (none)) else (none)) else (none)) = some r := by first | (rw [hji66] at H; exact H) | (simp only [hji66] at H ⊢; exact H)
                  have hji66w : (IntKind.i64.wrap (Int.tdiv (wrap64 ((Int.tmod a2 (wrap64 (8 * (wrap64 (20 + (a0_8.size : Int)))))) + 4)) 8)) = ji66 := (i64_w _).trans hji66
                  by_cases c67 : 0 ≤ (ji66)
                  · rw [if_pos c67] at H
                    have c67b0 : decide (0 ≤ (ji66)) = true := decide_eq_true c67
                    clear c67
                    by_cases c68 : (ji66) < (y265.length : Int)
                    · rw [if_pos c68] at H
                      have c68b0 : decide ((ji66) < (y265.length : Int)) = true := decide_eq_true c68
                      clear c68
                      obtain ⟨ji69, hji69⟩ : ∃ j_ : Int, (Int.tmod (wrap64 ((Int.tmod a2 (wrap64 (8 * (wrap64 (20 + (a0_8.size : Int)))))) + 4)) 8) = j_ := ⟨_, rfl⟩
                      replace H : (if 0 ≤ (ji69) then ((ip4_Parse.f (strOfNums (y265.set ((ji66) : Int).toNat (Go.bits .xor .u8 (rd y265 (ji66)) (shl .u8 1 (ji69)))))).bind fun bt270 => (if true = true then (some (bt270.2.2.2.2.2.2.2.2.2.2 != 0)) else (some false))) else (none)) = some r := by first | (rw [hji69] at H; exact H) | (simp only [hji69] at H ⊢; exact H)
                      by_cases c70 : 0 ≤ (ji69)
                      · rw [if_pos c70] at H
                        have c70b0 := eq_true c70
                        have c70b1 : decide (0 ≤ (ji69)) = true := decide_eq_true c70
                        clear c70
                        obtain ⟨ji71, hji71⟩ : ∃ j_ : Int, (shl .u8 1 (ji69)) = j_ := ⟨_, rfl⟩
                        replace H : ((ip4_Parse.f (strOfNums (y265.set ((ji66) : Int).toNat (Go.bits .xor .u8 (rd y265 (ji66)) (ji71))))).bind fun bt270 => (if true = true then (some (bt270.2.2.2.2.2.2.2.2.2.2 != 0)) else (some false))) = some r := by first | (rw [hji71] at H; exact H) | (simp only [hji71] at H ⊢; exact H)
                        have hji71_ : (IntKind.u8.wrap (1 * 2 ^ min (ji69).toNat 8)) = ji71 := hji71
                        have hji71z : (ji69) ≤ 8 → (IntKind.u8.wrap (1 * 2 ^ (ji69).toNat)) = ji71 := shl_small hji71
                        have hji71u : (IntKind.u8.wrap (2 ^ min (ji69).toNat 8)) = ji71 := by have h_ := hji71_; rw [Int.one_mul] at h_; exact h_
                        have hji71v : (ji69) ≤ 8 → (IntKind.u8.wrap (2 ^ (ji69).toNat)) = ji71 := fun hle_ => by have h_ := hji71z hle_; rw [Int.one_mul] at h_; exact h_
                        obtain ⟨y269, hy269⟩ : ∃ y_ : List Int, y_ = (y265.set ((ji66) : Int).toNat (Go.bits .xor .u8 (rd y265 (ji66)) (ji71))) := ⟨_, rfl⟩
                        replace H : ((ip4_Parse.f (strOfNums y269)).bind fun bt270 => (if true = true then (some (bt270.2.2.2.2.2.2.2.2.2.2 != 0)) else (some false))) = some r := by first | (rw [hy269]; with_reducible exact H) | (have H2_ := (Option.bind_some _ _).symm.trans H; rw [hy269]; with_reducible exact H2_) | (have H2_ := (Option.bind_some _ _).symm.trans H; with_reducible exact H2_) | with_reducible exact H | (rw [hy269]; exact H) | exact H
                        have Ny269 := Aside0.mk hy269
                        clear hy269
                        replace H := Option.bind_eq_some_iff.mp H
                        obtain ⟨⟨t270, t271, t272, t273, t274, t275, t276, t277, t278, t279, t280⟩, A730, H⟩ := H
                        replace H : (if true = true then (some (t280 != 0)) else (some false)) = some r := H
                        have A73 := Aside0.mk A730
                        clear A730
                        have c74 : true = true := rfl
                        · clear c74
                          have H1 : (some (t280 != 0)) = some r := by first | (rw [if_pos rfl] at H; exact H) | (rw [if_pos trivial] at H; exact H)
                          clear H
                          have H := H1
                          clear H1
                          obtain rfl := Option.some.inj H
                          have hcz75_0 : wc.cell? ⟨gb227, 0, none⟩ = some (.int .i64 a0_0) := (blk_cell BK227.out 0).trans rfl
                          have hcz75_1 : wc.cell? ⟨gb227, 1, none⟩ = some (.int .i64 a0_1) := (blk_cell BK227.out 1).trans rfl
                          have hcz75_2 : wc.cell? ⟨gb227, 2, none⟩ = some (.int .i64 a0_2) := (blk_cell BK227.out 2).trans rfl
                          have hcz75_3 : wc.cell? ⟨gb227, 3, none⟩ = some (.int .i64 a0_3) := (blk_cell BK227.out 3).trans rfl
                          have hcz75_4 : wc.cell? ⟨gb227, 4, none⟩ = some (.int .i64 a0_4) := (blk_cell BK227.out 4).trans rfl
                          have hcz75_5 : wc.cell? ⟨gb227, 5, none⟩ = some (.int .i64 a0_5) := (blk_cell BK227.out 5).trans rfl
                          have hcz75_6 : wc.cell? ⟨gb227, 6, none⟩ = some (.int .u32 a0_6) := (blk_cell BK227.out 6).trans rfl
                          have hcz75_7 : wc.cell? ⟨gb227, 7, none⟩ = some (.int .u32 a0_7) := (blk_cell BK227.out 7).trans rfl
                          have hcz75_8 : wc.cell? ⟨gb227, 8, none⟩ = some (.string a0_8) := (blk_cell BK227.out 8).trans rfl
                          have hfz75_0 := blk_frozen BK227.out 0
                          have hfz75_1 := blk_frozen BK227.out 1
                          have hfz75_2 := blk_frozen BK227.out 2
                          have hfz75_3 := blk_frozen BK227.out 3
                          have hfz75_4 := blk_frozen BK227.out 4
                          have hfz75_5 := blk_frozen BK227.out 5
                          have hfz75_6 := blk_frozen BK227.out 6
                          have hfz75_7 := blk_frozen BK227.out 7
                          have hfz75_8 := blk_frozen BK227.out 8
                          try go_wp2_with (first | ((with_reducible refine gate_dst (N := 56) rfl ?_); (try (refine gate_guard (by rfl) ?_; dsimp only)); refine Kb.Q_conv (Kd.int .u8) 5 rfl (N := 56) rfl 9 42 _ rfl t229 rfl Try.underlying9 Try.underlying42 Try.underlying5 (ok := fun _ => True) trivial (of_decide_eq_true (by first | (with_reducible assumption) | assumption)) ?_; intro v266 w76 ho77 hb hg_ hnew_; clear hg_ hnew_; (first | rw [← Ny265.out] at ho77 | (simp only [Int.reduceToNat] at ho77; rw [← Ny265.out] at ho77)); have n0_ := Aside0.mk (Kb.Q_lower ho77 (below_size (by repeat (first | (with_reducible first | exact HB.out | apply below_alloc | apply pw_below_drewN | apply below_drew1 | refine below_set ?_ GE227.out) | exact HB.out)))); have n1_ := Aside0.mk (blk_below (g := gb227) (o := .cells #[.int .i64 a0_0, .int .i64 a0_1, .int .i64 a0_2, .int .i64 a0_3, .int .i64 a0_4, .int .i64 a0_5, .int .u32 a0_6, .int .u32 a0_7, .string a0_8] 24 (0, 0)) (by (with_reducible repeat (first | refine blk_drewN ?_ _ | refine blk_drew ?_ | refine blk_alloc ?_ _)); exact BK227.out) hb); have n2_ := Aside0.mk (below_step (by repeat (first | (with_reducible first | exact HB.out | apply below_alloc | apply pw_below_drewN | apply below_drew1 | refine below_set ?_ GE227.out) | exact HB.out)) hb); clear BK227; clear HB; have HO267 := n0_; have BK227 := n1_; have HB := n2_; clear n0_ n1_ n2_; clear hb ho77))
                          have n0_ := Aside0.mk (Kb.Q_drew HO267.out)
                          have n1_ := Aside0.mk (blk_drew BK227.out)
                          have n2_ := Aside0.mk (below_drew1 HB.out)
                          clear HO267
                          clear BK227
                          clear HB
                          have HO267 := n0_
                          have BK227 := n1_
                          have HB := n2_
                          clear n0_ n1_ n2_
                          obtain ⟨Ao79, co79, eo79, _⟩ := Kb.Q_slice HO267.out
                          (first | subst eo79 | (injection eo79 with f1_ f2_ f3_; have f4_ := f1_.symm; have f5_ := f3_.symm; clear f1_ f2_ f3_; subst f4_; subst f5_))
                          have p268 : 0 ≤ ((ji66) : Int) := of_decide_eq_true (by first | (with_reducible assumption) | assumption)
                          have q268 : (ji66) < (y265.length : Int) := of_decide_eq_true (by first | (with_reducible assumption) | assumption)
                          obtain ⟨ad268, e268, hx268_0⟩ := Kd.at_int (Kb.Q_reads' HO267.out).2.2 (ji66) p268 q268
                          cases e268
                          replace p268 := eq_true p268
                          replace q268 := eq_true q268
                          have p72 : 0 ≤ ((ji66) : Int) := of_decide_eq_true (by first | (with_reducible assumption) | assumption)
                          have q72 : ((ji66) : Int) < ((y265.length : Int) : Int) := of_decide_eq_true (by first | (with_reducible assumption) | assumption)
                          obtain ⟨go72, co72, eo72, gb72, gl72, cl72, HG72⟩ := Kb.Q_form HO267.out (by omega)
                          (first | cases eo72 | (injection eo72 with ea_ en_ ec_; (first | subst ea_ | (injection ea_ with ea_; subst ea_)); subst ec_; clear en_))
                          have GB72 := Aside0.mk gb72
                          have GG72 := Aside0.mk HG72
                          clear gb72 gl72 HG72
                          (first | simp only [add_at, Nat.zero_add] at hx268_0 | skip)
                          obtain ⟨hx72_0, hf72_0⟩ := Kb.Q_cell 0 HO267.out ((ji66) : Int) p72 q72
                          replace p72 := eq_true p72
                          replace q72 := eq_true q72
                          have HP80 := (Kb.Q_putg HO267.out ((ji66) : Int) (of_decide_eq_true (by first | (with_reducible assumption) | assumption)) (by have h_ : ((ji66) : Int) < ((y265.length : Int) : Int) := of_decide_eq_true (by first | (with_reducible assumption) | assumption); first | exact h_ | (have e_ := (Kb.Q_reads' HO267.out).1; omega) | simpa using h_) (Go.bits .xor .u8 (rd y265 (ji66)) (ji71))).1
                          rw [← Ny269.out] at HP80
                          have HQ80 := Aside0.mk HP80
                          clear HP80
                          refine start_ (n := 14) (S := fun w' => w'.cell? ⟨go72, ((ji66)).toNat, none⟩ = some (.int .u8 (rd y265 (ji66)))) (ds := [13]) #[false, false, false, false, false, false, false, false, false, false, false, false, false, false] (by kernel_rfl) rfl rfl (hx268_0) (fun hHeld => ?_); refine with_tabW weighbridgelaw04_Ip4Bit.tab13 weighbridgelaw04_Ip4Bit.bits13 (fun HT_ HW_ => ?_)
                          generalize w76.drew = w78 at HO267 BK227 HB GG72 HQ80 hf72_0 hx268_0 hx72_0 hHeld ⊢
                          refine pure_ (i := 0) (N := some 57) (v := ?_) (a' := ?_) #[true, false, false, false, false, false, false, false, false, false, false, false, false, false] rfl rfl (any_of HT_.out (by kernel_rfl)) (fun _ _ _ h => h) (Or.inl ⟨by rfl, ?_⟩) ?_ ?_
                          rotate_left
                          · intro w'
                            go_simp
                            with_reducible rfl
                          rotate_left
                          · simp only [Act.put, List.setIfInBounds_toArray, List.set_cons_zero, List.set_cons_succ, i64_w, i32_w]
                            rfl
                          refine pure_ (i := 1) (N := some 58) (v := ?_) (a' := ?_) #[true, true, false, false, false, false, false, false, false, false, false, false, false, false] rfl rfl (any_of HT_.out (by kernel_rfl)) (fun _ _ _ h => h) (Or.inl ⟨by rfl, ?_⟩) ?_ ?_
                          rotate_left
                          · intro w'
                            go_simp
                            with_reducible rfl
                          rotate_left
                          · simp only [Act.put, List.setIfInBounds_toArray, List.set_cons_zero, List.set_cons_succ, i64_w, i32_w]
                            rfl
                          refine pure_ (i := 2) (N := some 59) (v := ?_) (a' := ?_) #[true, true, true, false, false, false, false, false, false, false, false, false, false, false] rfl rfl (any_of HT_.out (by kernel_rfl)) (fun _ _ _ h => h) (Or.inl ⟨by rfl, ?_⟩) ?_ ?_
                          rotate_left
                          · intro w'
                            go_simp
                            with_reducible rfl
                          rotate_left
                          · simp only [Act.put, List.setIfInBounds_toArray, List.set_cons_zero, List.set_cons_succ, i64_w, i32_w]
                            rfl
                          refine pure_ (i := 3) (N := some 60) (v := ?_) (a' := ?_) #[true, true, true, true, false, false, false, false, false, false, false, false, false, false] rfl rfl (any_of HT_.out (by kernel_rfl)) (fun _ _ _ h => h) (Or.inl ⟨by rfl, ?_⟩) ?_ ?_
                          rotate_left
                          · intro w'
                            go_simp
                            with_reducible rfl
                          rotate_left
                          · simp only [Act.put, List.setIfInBounds_toArray, List.set_cons_zero, List.set_cons_succ, i64_w, i32_w]
                            rfl
                          refine pure_ (i := 4) (N := some 61) (v := ?_) (a' := ?_) #[true, true, true, true, true, false, false, false, false, false, false, false, false, false] rfl rfl (any_of HT_.out (by kernel_rfl)) (fun _ _ _ h => h) (Or.inl ⟨by rfl, ?_⟩) ?_ ?_
                          rotate_left
                          · intro w'
                            go_simp
                            with_reducible rfl
                          rotate_left
                          · simp only [Act.put, List.setIfInBounds_toArray, List.set_cons_zero, List.set_cons_succ, i64_w, i32_w]
                            rfl
                          refine pure_ (i := 5) (N := some 62) (v := ?_) (a' := ?_) #[true, true, true, true, true, true, false, false, false, false, false, false, false, false] rfl rfl (any_of HT_.out (by kernel_rfl)) (fun _ _ _ h => h) (Or.inl ⟨by rfl, ?_⟩) ?_ ?_
                          rotate_left
                          · intro w'
                            go_simp
                            with_reducible rfl
                          rotate_left
                          · simp only [Act.put, List.setIfInBounds_toArray, List.set_cons_zero, List.set_cons_succ, i64_w, i32_w]
                            rfl
                          refine pure_ (i := 6) (N := some 63) (v := ?_) (a' := ?_) #[true, true, true, true, true, true, true, false, false, false, false, false, false, false] rfl rfl (any_of HT_.out (by kernel_rfl)) (fun _ _ _ h => h) (Or.inl ⟨by rfl, ?_⟩) ?_ ?_
                          rotate_left
                          · intro w'
                            go_simp
                            with_reducible rfl
                          rotate_left
                          · simp only [Act.put, List.setIfInBounds_toArray, List.set_cons_zero, List.set_cons_succ, i64_w, i32_w]
                            rfl
                          refine pure_ (i := 8) (N := some 65) (v := ?_) (a' := ?_) #[true, true, true, true, true, true, true, false, true, false, false, false, false, false] rfl rfl (any_of HT_.out (by kernel_rfl)) (fun _ _ _ h => h) (Or.inl ⟨by rfl, ?_⟩) ?_ ?_
                          rotate_left
                          · intro w'
                            go_simp
                            with_reducible rfl
                          rotate_left
                          · simp only [Act.put, List.setIfInBounds_toArray, List.set_cons_zero, List.set_cons_succ, i64_w, i32_w]
                            rfl
                          refine pure_ (i := 9) (N := some 66) (v := ?_) (a' := ?_) #[true, true, true, true, true, true, true, false, true, true, false, false, false, false] rfl rfl (any_of HT_.out (by kernel_rfl)) (fun _ _ _ h => h) (Or.inl ⟨by rfl, ?_⟩) ?_ ?_
                          rotate_left
                          · intro w'
                            go_simp
                            with_reducible rfl
                          rotate_left
                          · simp only [Act.put, List.setIfInBounds_toArray, List.set_cons_zero, List.set_cons_succ, i64_w, i32_w]
                            rfl
                          refine pure_ (i := 10) (N := some 67) (v := ?_) (a' := ?_) #[true, true, true, true, true, true, true, false, true, true, true, false, false, false] rfl rfl (any_of HT_.out (by kernel_rfl)) (fun _ _ _ h => h) (Or.inl ⟨by rfl, ?_⟩) ?_ ?_
                          rotate_left
                          · intro w'
                            go_simp
                            with_reducible rfl
                          rotate_left
                          · simp only [Act.put, List.setIfInBounds_toArray, List.set_cons_zero, List.set_cons_succ, i64_w, i32_w]
                            rfl
                          refine take_ (i := 7) (N := some 64) (v := ?_) (a' := ?_) #[true, true, true, true, true, true, true, true, true, true, true, false, false, false] rfl rfl (take_ofW HT_.out HW_.out (by kernel_rfl)) (fun _ _ _ h => h) (Or.inl ⟨by rfl, ?_⟩) hHeld ?_ ?_
                          rotate_left
                          · intro w' s0
                            go_simp
                            with_reducible rfl
                          rotate_left
                          · simp only [Act.put, List.setIfInBounds_toArray, List.set_cons_zero, List.set_cons_succ, i64_w, i32_w]
                            rfl
                          refine pure_ (i := 11) (N := some 68) (v := ?_) (a' := ?_) #[true, true, true, true, true, true, true, true, true, true, true, true, false, false] rfl rfl (any_of HT_.out (by kernel_rfl)) (fun _ _ _ h => h) (Or.inl ⟨by rfl, ?_⟩) ?_ ?_
                          rotate_left
                          · intro w'
                            go_simp
                            with_reducible rfl
                          rotate_left
                          · simp only [Act.put, List.setIfInBounds_toArray, List.set_cons_zero, List.set_cons_succ, i64_w, i32_w]
                            rfl
                          refine pure_ (i := 12) (N := some 69) (v := ?_) (a' := ?_) #[true, true, true, true, true, true, true, true, true, true, true, true, true, false] rfl rfl (any_of HT_.out (by kernel_rfl)) (fun _ _ _ h => h) (Or.inl ⟨by rfl, ?_⟩) ?_ ?_
                          rotate_left
                          · intro w'
                            go_simp
                            with_reducible rfl
                          rotate_left
                          · simp only [Act.put, List.setIfInBounds_toArray, List.set_cons_zero, List.set_cons_succ, i64_w, i32_w]
                            rfl
                          refine last_ (i := 13) (N := none) #[true, true, true, true, true, true, true, true, true, true, true, true, true, true] rfl rfl (one_of HT_.out (by kernel_rfl)) (by decide) (fun K hK => ?_)
                          refine skip_ (w1 := ?_) (by rfl) rfl ?_ ?_
                          rotate_left
                          · go_simp
                            rfl
                          refine hK.out _ _ ?_
                          clear hK K
                          refine done_ (done_of HT_.out (by kernel_rfl)) ?_
                          have n0_ : Aside0 (Kb.Q (Kd.int .u8) 5 (w78.setCell ⟨go72, ((ji66) : Int).toNat, none⟩ (.int .u8 (Go.bits .xor .u8 (rd y265 (ji66)) (ji71)))) w.heap.size (fun _ => True) (.slice (some ⟨go72, 0, none⟩) y265.length co79) y269) := ⟨by (with_reducible repeat (first | apply Kb.Q_alloc | apply Kb.Q_drewN | apply Kb.Q_drew)); exact HQ80.out⟩
                          have n1_ : Aside0 ((w78.setCell ⟨go72, ((ji66) : Int).toNat, none⟩ (.int .u8 (Go.bits .xor .u8 (rd y265 (ji66)) (ji71)))).heap[gb227]? = some (.cells #[.int .i64 a0_0, .int .i64 a0_1, .int .i64 a0_2, .int .i64 a0_3, .int .i64 a0_4, .int .i64 a0_5, .int .u32 a0_6, .int .u32 a0_7, .string a0_8] 24 (0, 0))) := ⟨by (with_reducible repeat (first | refine blk_drewN ?_ _ | refine blk_drew ?_ | refine blk_alloc ?_ _)); refine blk_far ?_ (by have h_ := Kb.Q_ne HO267.out BK227.out (by decide); intro e_; exact h_ (by rw [e_]; rfl)) _; (with_reducible repeat (first | refine blk_drewN ?_ _ | refine blk_drew ?_ | refine blk_alloc ?_ _)); exact BK227.out⟩
                          have n2_ : Aside0 (Below w.heap.size w (w78.setCell ⟨go72, ((ji66) : Int).toNat, none⟩ (.int .u8 (Go.bits .xor .u8 (rd y265 (ji66)) (ji71))))) := ⟨by repeat (first | (with_reducible first | exact HB.out | apply below_alloc | apply pw_below_drewN | apply below_drew1 | refine below_set ?_ GB72.out | refine below_set ?_ GE227.out) | exact HB.out)⟩
                          (try clear HO267)
                          (try clear BK227)
                          (try clear HB)
                          generalize (w78.setCell ⟨go72, ((ji66) : Int).toNat, none⟩ (.int .u8 (Go.bits .xor .u8 (rd y265 (ji66)) (ji71)))) = w81 at n0_ n1_ n2_ ⊢
                          have HO267 := n0_
                          have BK227 := n1_
                          have HB := n2_
                          clear n0_ n1_ n2_
                          have hcv82 := Kb.Q_string (P := Try.prog) Try.underlying42 Try.underlying5 Try.underlying9 (by exact HO267.out)
                          try go_wp2_with (first | ((with_reducible refine gate_callee (f := 18) rfl ?_); refine goesL_ (some 73) rfl rfl Try.func18 (by kernel_rfl) rfl #[.string (strOfNums y269)] rfl (by (try simp only [List.map_toArray, List.map_cons, List.map_nil]); first | done | rfl | (simp only [List.length_drop, List.length_take]; rfl)) ?_; (with_reducible refine (ip4_Parse.calls (strOfNums y269) t270 t271 t272 t273 t274 t275 t276 t277 t278 t279 t280 _ A73.out).mono ?_); rintro e w83 ⟨rfl, hb⟩; (try clear A73); refine ⟨_, rfl, ?_⟩; have n0_ := Aside0.mk (Kb.Q_below (by (with_reducible repeat (first | apply Kb.Q_alloc | apply Kb.Q_drewN | apply Kb.Q_drew)); exact HO267.out) hb); have n1_ := Aside0.mk (blk_below (g := gb227) (o := .cells #[.int .i64 a0_0, .int .i64 a0_1, .int .i64 a0_2, .int .i64 a0_3, .int .i64 a0_4, .int .i64 a0_5, .int .u32 a0_6, .int .u32 a0_7, .string a0_8] 24 (0, 0)) (by (with_reducible repeat (first | refine blk_drewN ?_ _ | refine blk_drew ?_ | refine blk_alloc ?_ _)); exact BK227.out) hb); have n2_ := Aside0.mk (below_step (by repeat (first | (with_reducible first | exact HB.out | apply below_alloc | apply pw_below_drewN | apply below_drew1 | refine below_set ?_ GE227.out) | exact HB.out)) hb); clear HO267; clear BK227; clear HB; have HO267 := n0_; have BK227 := n1_; have HB := n2_; clear n0_ n1_ n2_; (try clear hb); (try clear hb2); (try clear hk); (try clear hi)) | ((with_reducible refine gate_dst (N := 11) rfl ?_); (try (refine gate_guard (by rfl) ?_; dsimp only)); refine box_event ?hg (N := 11) ?hd (cs := #[.int .i64 0, .int .i64 0, .int .i64 0, .int .i64 0, .int .i64 0, .int .i64 0, .int .u32 0, .int .u32 0, .string (⟨#[]⟩ : ByteArray)]) (t := 24) ?hr ?_; (case hd => rfl); (case hg => rfl); (case hr => first | (go_simp; done) | (go_simp; rfl)); intro gb281 hg w84 hbox hb; have n0_ := Aside0.mk (Kb.Q_below (by (with_reducible repeat (first | apply Kb.Q_alloc | apply Kb.Q_drewN | apply Kb.Q_drew)); exact HO267.out) hb); have n1_ := Aside0.mk (blk_below (g := gb227) (o := .cells #[.int .i64 a0_0, .int .i64 a0_1, .int .i64 a0_2, .int .i64 a0_3, .int .i64 a0_4, .int .i64 a0_5, .int .u32 a0_6, .int .u32 a0_7, .string a0_8] 24 (0, 0)) (by (with_reducible repeat (first | refine blk_drewN ?_ _ | refine blk_drew ?_ | refine blk_alloc ?_ _)); exact BK227.out) hb); have n2_ := Aside0.mk (below_step (by repeat (first | (with_reducible first | exact HB.out | apply below_alloc | apply pw_below_drewN | apply below_drew1 | refine below_set ?_ GE227.out) | exact HB.out)) hb); have n3_ := Aside0.mk (hbox); have n4_ := Aside0.mk ((by rw [hg]; exact (below_size (by repeat (first | (with_reducible first | exact HB.out | apply below_alloc | apply pw_below_drewN | apply below_drew1 | refine below_set ?_ GE227.out) | exact HB.out))) : w.heap.size ≤ gb281)); have n5_ := Aside0.mk ((by rw [hg]; exact (below_size (by repeat (first | (with_reducible first | exact HB.out | apply below_alloc | apply pw_below_drewN | apply below_drew1 | refine below_set ?_ GE227.out) | exact HB.out))) : w.heap.size ≤ gb281)); have n6_ := Aside0.mk ((by rw [hg]; exact Nat.ne_of_lt (blk_lt (g := gb227) (o := .cells #[.int .i64 a0_0, .int .i64 a0_1, .int .i64 a0_2, .int .i64 a0_3, .int .i64 a0_4, .int .i64 a0_5, .int .u32 a0_6, .int .u32 a0_7, .string a0_8] 24 (0, 0)) (by (with_reducible repeat (first | refine blk_drewN ?_ _ | refine blk_drew ?_ | refine blk_alloc ?_ _)); exact BK227.out)) : gb227 ≠ gb281)); have n7_ := Aside0.mk ((by rw [hg]; exact Nat.ne_of_gt (blk_lt (g := gb227) (o := .cells #[.int .i64 a0_0, .int .i64 a0_1, .int .i64 a0_2, .int .i64 a0_3, .int .i64 a0_4, .int .i64 a0_5, .int .u32 a0_6, .int .u32 a0_7, .string a0_8] 24 (0, 0)) (by (with_reducible repeat (first | refine blk_drewN ?_ _ | refine blk_drew ?_ | refine blk_alloc ?_ _)); exact BK227.out)) : gb281 ≠ gb227)); clear HO267; clear BK227; clear HB; have HO267 := n0_; have BK227 := n1_; have HB := n2_; have BK281 := n3_; have GW281 := n4_; have GE281 := n5_; have NB227_281 := n6_; have NB281_227 := n7_; clear n0_ n1_ n2_ n3_ n4_ n5_ n6_ n7_; clear hb hbox hg; have hnb85 := NB281_227.out; have hnc85 := NB227_281.out; have hcz86_0 : w84.cell? ⟨gb281, 0, none⟩ = some (.int .i64 0) := (blk_cell BK281.out 0).trans rfl; have hcz86_1 : w84.cell? ⟨gb281, 1, none⟩ = some (.int .i64 0) := (blk_cell BK281.out 1).trans rfl; have hcz86_2 : w84.cell? ⟨gb281, 2, none⟩ = some (.int .i64 0) := (blk_cell BK281.out 2).trans rfl; have hcz86_3 : w84.cell? ⟨gb281, 3, none⟩ = some (.int .i64 0) := (blk_cell BK281.out 3).trans rfl; have hcz86_4 : w84.cell? ⟨gb281, 4, none⟩ = some (.int .i64 0) := (blk_cell BK281.out 4).trans rfl; have hcz86_5 : w84.cell? ⟨gb281, 5, none⟩ = some (.int .i64 0) := (blk_cell BK281.out 5).trans rfl; have hcz86_6 : w84.cell? ⟨gb281, 6, none⟩ = some (.int .u32 0) := (blk_cell BK281.out 6).trans rfl; have hcz86_7 : w84.cell? ⟨gb281, 7, none⟩ = some (.int .u32 0) := (blk_cell BK281.out 7).trans rfl; have hcz86_8 : w84.cell? ⟨gb281, 8, none⟩ = some (.string (⟨#[]⟩ : ByteArray)) := (blk_cell BK281.out 8).trans rfl; have hfz86_0 := blk_frozen BK281.out 0; have hfz86_1 := blk_frozen BK281.out 1; have hfz86_2 := blk_frozen BK281.out 2; have hfz86_3 := blk_frozen BK281.out 3; have hfz86_4 := blk_frozen BK281.out 4; have hfz86_5 := blk_frozen BK281.out 5; have hfz86_6 := blk_frozen BK281.out 6; have hfz86_7 := blk_frozen BK281.out 7; have hfz86_8 := blk_frozen BK281.out 8))
                          go_ret
                          exact ⟨by first | rfl | (simp [errW_none, errW_some] <;> rfl) | (simp only [← hji66, ← hji69, ← hji71]; first | rfl | (simp [errW_none, errW_some] <;> rfl)) | (simp [*, errW_none, errW_some] <;> rfl), by repeat (first | (with_reducible first | exact HB.out | apply below_alloc | apply pw_below_drewN | apply below_drew1 | refine below_set ?_ GE227.out | refine below_set ?_ GE281.out) | exact HB.out)⟩
                      · rw [if_neg c70] at H
                        exact absurd H (by simp)
                    · rw [if_neg c68] at H
                      exact absurd H (by simp)
                  · rw [if_neg c67] at H
                    exact absurd H (by simp)
                · rw [if_neg c65] at H
                  exact absurd H (by simp)
              · rw [if_neg c64] at H
                have c64b0 : decide ((Int.tmod a2 (wrap64 (8 * (wrap64 (20 + (a0_8.size : Int)))))) < 4) = false := decide_eq_false c64
                clear c64
                by_cases c87 : t229.size ≤ 281474976710656
                · rw [if_pos c87] at H
                  have c87b0 := eq_true c87
                  have c87b1 : decide (t229.size ≤ 281474976710656) = true := decide_eq_true c87
                  clear c87
                  obtain ⟨y282, hy282⟩ : ∃ y_ : List Int, y_ = (numsOf t229) := ⟨_, rfl⟩
                  replace H : (if 0 ≤ (wrap64 (Int.tdiv (Int.tmod a2 (wrap64 (8 * (wrap64 (20 + (a0_8.size : Int)))))) 8)) then (if (wrap64 (Int.tdiv (Int.tmod a2 (wrap64 (8 * (wrap64 (20 + (a0_8.size : Int)))))) 8)) < (y282.length : Int) then (if 0 ≤ (Int.tmod (Int.tmod a2 (wrap64 (8 * (wrap64 (20 + (a0_8.size : Int)))))) 8) then ((ip4_Parse.f (strOfNums (y282.set ((wrap64 (Int.tdiv (Int.tmod a2 (wrap64 (8 * (wrap64 (20 + (a0_8.size : Int)))))) 8)) : Int).toNat (Go.bits .xor .u8 (rd y282 (wrap64 (Int.tdiv (Int.tmod a2 (wrap64 (8 * (wrap64 (20 + (a0_8.size : Int)))))) 8))) (shl .u8 1 (Int.tmod (Int.tmod a2 (wrap64 (8 * (wrap64 (20 + (a0_8.size : Int)))))) 8)))))).bind fun bt287 => (if true = true then (some (bt287.2.2.2.2.2.2.2.2.2.2 != 0)) else (some false))) else (none)) else (none)) else (none)) = some r := by first | (rw [hy282]; with_reducible exact H) | (have H2_ := (Option.bind_some _ _).symm.trans H; rw [hy282]; with_reducible exact H2_) | (have H2_ := (Option.bind_some _ _).symm.trans H; with_reducible exact H2_) | with_reducible exact H | (rw [hy282]; exact H) | exact H
                  have Ny282 := Aside0.mk hy282
                  clear hy282
                  obtain ⟨ji88, hji88⟩ : ∃ j_ : Int, (wrap64 (Int.tdiv (Int.tmod a2 (wrap64 (8 * (wrap64 (20 + (a0_8.size : Int)))))) 8)) = j_ := ⟨_, rfl⟩
                  replace H : (if 0 ≤ (ji88) then (if (ji88) < (y282.length : Int) then (if 0 ≤ (Int.tmod (Int.tmod a2 (wrap64 (8 * (wrap64 (20 + (a0_8.size : Int)))))) 8) then ((ip4_Parse.f (strOfNums (y282.set ((ji88) : Int).toNat (Go.bits .xor .u8 (rd y282 (ji88)) (shl .u8 1 (Int.tmod (Int.tmod a2 (wrap64 (8 * (wrap64 (20 + (a0_8.size : Int)))))) 8)))))).bind fun bt287 => (if true = true then (some (bt287.2.2.2.2.2.2.2.2.2.2 != 0)) else (some false))) else (none)) else (none)) else (none)) = some r := by first | (rw [hji88] at H; exact H) | (simp only [hji88] at H ⊢; exact H)
                  have hji88w : (IntKind.i64.wrap (Int.tdiv (Int.tmod a2 (wrap64 (8 * (wrap64 (20 + (a0_8.size : Int)))))) 8)) = ji88 := (i64_w _).trans hji88
                  by_cases c89 : 0 ≤ (ji88)
                  · rw [if_pos c89] at H
                    have c89b0 : decide (0 ≤ (ji88)) = true := decide_eq_true c89
                    clear c89
                    by_cases c90 : (ji88) < (y282.length : Int)
                    · rw [if_pos c90] at H
                      have c90b0 : decide ((ji88) < (y282.length : Int)) = true := decide_eq_true c90
                      clear c90
                      obtain ⟨ji91, hji91⟩ : ∃ j_ : Int, (Int.tmod (Int.tmod a2 (wrap64 (8 * (wrap64 (20 + (a0_8.size : Int)))))) 8) = j_ := ⟨_, rfl⟩
                      replace H : (if 0 ≤ (ji91) then ((ip4_Parse.f (strOfNums (y282.set ((ji88) : Int).toNat (Go.bits .xor .u8 (rd y282 (ji88)) (shl .u8 1 (ji91)))))).bind fun bt287 => (if true = true then (some (bt287.2.2.2.2.2.2.2.2.2.2 != 0)) else (some false))) else (none)) = some r := by first | (rw [hji91] at H; exact H) | (simp only [hji91] at H ⊢; exact H)
                      by_cases c92 : 0 ≤ (ji91)
                      · rw [if_pos c92] at H
                        have c92b0 := eq_true c92
                        have c92b1 : decide (0 ≤ (ji91)) = true := decide_eq_true c92
                        clear c92
                        obtain ⟨ji93, hji93⟩ : ∃ j_ : Int, (shl .u8 1 (ji91)) = j_ := ⟨_, rfl⟩
                        replace H : ((ip4_Parse.f (strOfNums (y282.set ((ji88) : Int).toNat (Go.bits .xor .u8 (rd y282 (ji88)) (ji93))))).bind fun bt287 => (if true = true then (some (bt287.2.2.2.2.2.2.2.2.2.2 != 0)) else (some false))) = some r := by first | (rw [hji93] at H; exact H) | (simp only [hji93] at H ⊢; exact H)
                        have hji93_ : (IntKind.u8.wrap (1 * 2 ^ min (ji91).toNat 8)) = ji93 := hji93
                        have hji93z : (ji91) ≤ 8 → (IntKind.u8.wrap (1 * 2 ^ (ji91).toNat)) = ji93 := shl_small hji93
                        have hji93u : (IntKind.u8.wrap (2 ^ min (ji91).toNat 8)) = ji93 := by have h_ := hji93_; rw [Int.one_mul] at h_; exact h_
                        have hji93v : (ji91) ≤ 8 → (IntKind.u8.wrap (2 ^ (ji91).toNat)) = ji93 := fun hle_ => by have h_ := hji93z hle_; rw [Int.one_mul] at h_; exact h_
                        obtain ⟨y286, hy286⟩ : ∃ y_ : List Int, y_ = (y282.set ((ji88) : Int).toNat (Go.bits .xor .u8 (rd y282 (ji88)) (ji93))) := ⟨_, rfl⟩
                        replace H : ((ip4_Parse.f (strOfNums y286)).bind fun bt287 => (if true = true then (some (bt287.2.2.2.2.2.2.2.2.2.2 != 0)) else (some false))) = some r := by first | (rw [hy286]; with_reducible exact H) | (have H2_ := (Option.bind_some _ _).symm.trans H; rw [hy286]; with_reducible exact H2_) | (have H2_ := (Option.bind_some _ _).symm.trans H; with_reducible exact H2_) | with_reducible exact H | (rw [hy286]; exact H) | exact H
                        have Ny286 := Aside0.mk hy286
                        clear hy286
                        replace H := Option.bind_eq_some_iff.mp H
                        obtain ⟨⟨t287, t288, t289, t290, t291, t292, t293, t294, t295, t296, t297⟩, A950, H⟩ := H
                        replace H : (if true = true then (some (t297 != 0)) else (some false)) = some r := H
                        have A95 := Aside0.mk A950
                        clear A950
                        have c96 : true = true := rfl
                        · clear c96
                          have H1 : (some (t297 != 0)) = some r := by first | (rw [if_pos rfl] at H; exact H) | (rw [if_pos trivial] at H; exact H)
                          clear H
                          have H := H1
                          clear H1
                          obtain rfl := Option.some.inj H
                          have hcz97_0 : wc.cell? ⟨gb227, 0, none⟩ = some (.int .i64 a0_0) := (blk_cell BK227.out 0).trans rfl
                          have hcz97_1 : wc.cell? ⟨gb227, 1, none⟩ = some (.int .i64 a0_1) := (blk_cell BK227.out 1).trans rfl
                          have hcz97_2 : wc.cell? ⟨gb227, 2, none⟩ = some (.int .i64 a0_2) := (blk_cell BK227.out 2).trans rfl
                          have hcz97_3 : wc.cell? ⟨gb227, 3, none⟩ = some (.int .i64 a0_3) := (blk_cell BK227.out 3).trans rfl
                          have hcz97_4 : wc.cell? ⟨gb227, 4, none⟩ = some (.int .i64 a0_4) := (blk_cell BK227.out 4).trans rfl
                          have hcz97_5 : wc.cell? ⟨gb227, 5, none⟩ = some (.int .i64 a0_5) := (blk_cell BK227.out 5).trans rfl
                          have hcz97_6 : wc.cell? ⟨gb227, 6, none⟩ = some (.int .u32 a0_6) := (blk_cell BK227.out 6).trans rfl
                          have hcz97_7 : wc.cell? ⟨gb227, 7, none⟩ = some (.int .u32 a0_7) := (blk_cell BK227.out 7).trans rfl
                          have hcz97_8 : wc.cell? ⟨gb227, 8, none⟩ = some (.string a0_8) := (blk_cell BK227.out 8).trans rfl
                          have hfz97_0 := blk_frozen BK227.out 0
                          have hfz97_1 := blk_frozen BK227.out 1
                          have hfz97_2 := blk_frozen BK227.out 2
                          have hfz97_3 := blk_frozen BK227.out 3
                          have hfz97_4 := blk_frozen BK227.out 4
                          have hfz97_5 := blk_frozen BK227.out 5
                          have hfz97_6 := blk_frozen BK227.out 6
                          have hfz97_7 := blk_frozen BK227.out 7
                          have hfz97_8 := blk_frozen BK227.out 8
                          try go_wp2_with (first | ((with_reducible refine gate_dst (N := 56) rfl ?_); (try (refine gate_guard (by rfl) ?_; dsimp only)); refine Kb.Q_conv (Kd.int .u8) 5 rfl (N := 56) rfl 9 42 _ rfl t229 rfl Try.underlying9 Try.underlying42 Try.underlying5 (ok := fun _ => True) trivial (of_decide_eq_true (by first | (with_reducible assumption) | assumption)) ?_; intro v283 w98 ho99 hb hg_ hnew_; clear hg_ hnew_; (first | rw [← Ny282.out] at ho99 | (simp only [Int.reduceToNat] at ho99; rw [← Ny282.out] at ho99)); have n0_ := Aside0.mk (Kb.Q_lower ho99 (below_size (by repeat (first | (with_reducible first | exact HB.out | apply below_alloc | apply pw_below_drewN | apply below_drew1 | refine below_set ?_ GE227.out) | exact HB.out)))); have n1_ := Aside0.mk (blk_below (g := gb227) (o := .cells #[.int .i64 a0_0, .int .i64 a0_1, .int .i64 a0_2, .int .i64 a0_3, .int .i64 a0_4, .int .i64 a0_5, .int .u32 a0_6, .int .u32 a0_7, .string a0_8] 24 (0, 0)) (by (with_reducible repeat (first | refine blk_drewN ?_ _ | refine blk_drew ?_ | refine blk_alloc ?_ _)); exact BK227.out) hb); have n2_ := Aside0.mk (below_step (by repeat (first | (with_reducible first | exact HB.out | apply below_alloc | apply pw_below_drewN | apply below_drew1 | refine below_set ?_ GE227.out) | exact HB.out)) hb); clear BK227; clear HB; have HO284 := n0_; have BK227 := n1_; have HB := n2_; clear n0_ n1_ n2_; clear hb ho99))
                          have n0_ := Aside0.mk (Kb.Q_drew HO284.out)
                          have n1_ := Aside0.mk (blk_drew BK227.out)
                          have n2_ := Aside0.mk (below_drew1 HB.out)
                          clear HO284
                          clear BK227
                          clear HB
                          have HO284 := n0_
                          have BK227 := n1_
                          have HB := n2_
                          clear n0_ n1_ n2_
                          obtain ⟨Ao101, co101, eo101, _⟩ := Kb.Q_slice HO284.out
                          (first | subst eo101 | (injection eo101 with f1_ f2_ f3_; have f4_ := f1_.symm; have f5_ := f3_.symm; clear f1_ f2_ f3_; subst f4_; subst f5_))
                          have p285 : 0 ≤ ((ji88) : Int) := of_decide_eq_true (by first | (with_reducible assumption) | assumption)
                          have q285 : (ji88) < (y282.length : Int) := of_decide_eq_true (by first | (with_reducible assumption) | assumption)
                          obtain ⟨ad285, e285, hx285_0⟩ := Kd.at_int (Kb.Q_reads' HO284.out).2.2 (ji88) p285 q285
                          cases e285
                          replace p285 := eq_true p285
                          replace q285 := eq_true q285
                          have p94 : 0 ≤ ((ji88) : Int) := of_decide_eq_true (by first | (with_reducible assumption) | assumption)
                          have q94 : ((ji88) : Int) < ((y282.length : Int) : Int) := of_decide_eq_true (by first | (with_reducible assumption) | assumption)
                          obtain ⟨go94, co94, eo94, gb94, gl94, cl94, HG94⟩ := Kb.Q_form HO284.out (by omega)
                          (first | cases eo94 | (injection eo94 with ea_ en_ ec_; (first | subst ea_ | (injection ea_ with ea_; subst ea_)); subst ec_; clear en_))
                          have GB94 := Aside0.mk gb94
                          have GG94 := Aside0.mk HG94
                          clear gb94 gl94 HG94
                          (first | simp only [add_at, Nat.zero_add] at hx285_0 | skip)
                          obtain ⟨hx94_0, hf94_0⟩ := Kb.Q_cell 0 HO284.out ((ji88) : Int) p94 q94
                          replace p94 := eq_true p94
                          replace q94 := eq_true q94
                          have HP102 := (Kb.Q_putg HO284.out ((ji88) : Int) (of_decide_eq_true (by first | (with_reducible assumption) | assumption)) (by have h_ : ((ji88) : Int) < ((y282.length : Int) : Int) := of_decide_eq_true (by first | (with_reducible assumption) | assumption); first | exact h_ | (have e_ := (Kb.Q_reads' HO284.out).1; omega) | simpa using h_) (Go.bits .xor .u8 (rd y282 (ji88)) (ji93))).1
                          rw [← Ny286.out] at HP102
                          have HQ102 := Aside0.mk HP102
                          clear HP102
                          refine start_ (n := 14) (S := fun w' => w'.cell? ⟨go94, ((ji88)).toNat, none⟩ = some (.int .u8 (rd y282 (ji88)))) (ds := [13]) #[false, false, false, false, false, false, false, false, false, false, false, false, false, false] (by kernel_rfl) rfl rfl (hx285_0) (fun hHeld => ?_); refine with_tabW weighbridgelaw04_Ip4Bit.tab13 weighbridgelaw04_Ip4Bit.bits13 (fun HT_ HW_ => ?_)
                          generalize w98.drew = w100 at HO284 BK227 HB GG94 HQ102 hf94_0 hx285_0 hx94_0 hHeld ⊢
                          refine pure_ (i := 0) (N := some 57) (v := ?_) (a' := ?_) #[true, false, false, false, false, false, false, false, false, false, false, false, false, false] rfl rfl (any_of HT_.out (by kernel_rfl)) (fun _ _ _ h => h) (Or.inl ⟨by rfl, ?_⟩) ?_ ?_
                          rotate_left
                          · intro w'
                            go_simp
                            with_reducible rfl
                          rotate_left
                          · simp only [Act.put, List.setIfInBounds_toArray, List.set_cons_zero, List.set_cons_succ, i64_w, i32_w]
                            rfl
                          refine pure_ (i := 1) (N := some 58) (v := ?_) (a' := ?_) #[true, true, false, false, false, false, false, false, false, false, false, false, false, false] rfl rfl (any_of HT_.out (by kernel_rfl)) (fun _ _ _ h => h) (Or.inl ⟨by rfl, ?_⟩) ?_ ?_
                          rotate_left
                          · intro w'
                            go_simp
                            with_reducible rfl
                          rotate_left
                          · simp only [Act.put, List.setIfInBounds_toArray, List.set_cons_zero, List.set_cons_succ, i64_w, i32_w]
                            rfl
                          refine pure_ (i := 2) (N := some 59) (v := ?_) (a' := ?_) #[true, true, true, false, false, false, false, false, false, false, false, false, false, false] rfl rfl (any_of HT_.out (by kernel_rfl)) (fun _ _ _ h => h) (Or.inl ⟨by rfl, ?_⟩) ?_ ?_
                          rotate_left
                          · intro w'
                            go_simp
                            with_reducible rfl
                          rotate_left
                          · simp only [Act.put, List.setIfInBounds_toArray, List.set_cons_zero, List.set_cons_succ, i64_w, i32_w]
                            rfl
                          refine pure_ (i := 3) (N := some 60) (v := ?_) (a' := ?_) #[true, true, true, true, false, false, false, false, false, false, false, false, false, false] rfl rfl (any_of HT_.out (by kernel_rfl)) (fun _ _ _ h => h) (Or.inl ⟨by rfl, ?_⟩) ?_ ?_
                          rotate_left
                          · intro w'
                            go_simp
                            with_reducible rfl
                          rotate_left
                          · simp only [Act.put, List.setIfInBounds_toArray, List.set_cons_zero, List.set_cons_succ, i64_w, i32_w]
                            rfl
                          refine pure_ (i := 4) (N := some 61) (v := ?_) (a' := ?_) #[true, true, true, true, true, false, false, false, false, false, false, false, false, false] rfl rfl (any_of HT_.out (by kernel_rfl)) (fun _ _ _ h => h) (Or.inl ⟨by rfl, ?_⟩) ?_ ?_
                          rotate_left
                          · intro w'
                            go_simp
                            with_reducible rfl
                          rotate_left
                          · simp only [Act.put, List.setIfInBounds_toArray, List.set_cons_zero, List.set_cons_succ, i64_w, i32_w]
                            rfl
                          refine pure_ (i := 5) (N := some 62) (v := ?_) (a' := ?_) #[true, true, true, true, true, true, false, false, false, false, false, false, false, false] rfl rfl (any_of HT_.out (by kernel_rfl)) (fun _ _ _ h => h) (Or.inl ⟨by rfl, ?_⟩) ?_ ?_
                          rotate_left
                          · intro w'
                            go_simp
                            with_reducible rfl
                          rotate_left
                          · simp only [Act.put, List.setIfInBounds_toArray, List.set_cons_zero, List.set_cons_succ, i64_w, i32_w]
                            rfl
                          refine pure_ (i := 6) (N := some 63) (v := ?_) (a' := ?_) #[true, true, true, true, true, true, true, false, false, false, false, false, false, false] rfl rfl (any_of HT_.out (by kernel_rfl)) (fun _ _ _ h => h) (Or.inl ⟨by rfl, ?_⟩) ?_ ?_
                          rotate_left
                          · intro w'
                            go_simp
                            with_reducible rfl
                          rotate_left
                          · simp only [Act.put, List.setIfInBounds_toArray, List.set_cons_zero, List.set_cons_succ, i64_w, i32_w]
                            rfl
                          refine pure_ (i := 8) (N := some 65) (v := ?_) (a' := ?_) #[true, true, true, true, true, true, true, false, true, false, false, false, false, false] rfl rfl (any_of HT_.out (by kernel_rfl)) (fun _ _ _ h => h) (Or.inl ⟨by rfl, ?_⟩) ?_ ?_
                          rotate_left
                          · intro w'
                            go_simp
                            with_reducible rfl
                          rotate_left
                          · simp only [Act.put, List.setIfInBounds_toArray, List.set_cons_zero, List.set_cons_succ, i64_w, i32_w]
                            rfl
                          refine pure_ (i := 9) (N := some 66) (v := ?_) (a' := ?_) #[true, true, true, true, true, true, true, false, true, true, false, false, false, false] rfl rfl (any_of HT_.out (by kernel_rfl)) (fun _ _ _ h => h) (Or.inl ⟨by rfl, ?_⟩) ?_ ?_
                          rotate_left
                          · intro w'
                            go_simp
                            with_reducible rfl
                          rotate_left
                          · simp only [Act.put, List.setIfInBounds_toArray, List.set_cons_zero, List.set_cons_succ, i64_w, i32_w]
                            rfl
                          refine pure_ (i := 10) (N := some 67) (v := ?_) (a' := ?_) #[true, true, true, true, true, true, true, false, true, true, true, false, false, false] rfl rfl (any_of HT_.out (by kernel_rfl)) (fun _ _ _ h => h) (Or.inl ⟨by rfl, ?_⟩) ?_ ?_
                          rotate_left
                          · intro w'
                            go_simp
                            with_reducible rfl
                          rotate_left
                          · simp only [Act.put, List.setIfInBounds_toArray, List.set_cons_zero, List.set_cons_succ, i64_w, i32_w]
                            rfl
                          refine take_ (i := 7) (N := some 64) (v := ?_) (a' := ?_) #[true, true, true, true, true, true, true, true, true, true, true, false, false, false] rfl rfl (take_ofW HT_.out HW_.out (by kernel_rfl)) (fun _ _ _ h => h) (Or.inl ⟨by rfl, ?_⟩) hHeld ?_ ?_
                          rotate_left
                          · intro w' s0
                            go_simp
                            with_reducible rfl
                          rotate_left
                          · simp only [Act.put, List.setIfInBounds_toArray, List.set_cons_zero, List.set_cons_succ, i64_w, i32_w]
                            rfl
                          refine pure_ (i := 11) (N := some 68) (v := ?_) (a' := ?_) #[true, true, true, true, true, true, true, true, true, true, true, true, false, false] rfl rfl (any_of HT_.out (by kernel_rfl)) (fun _ _ _ h => h) (Or.inl ⟨by rfl, ?_⟩) ?_ ?_
                          rotate_left
                          · intro w'
                            go_simp
                            with_reducible rfl
                          rotate_left
                          · simp only [Act.put, List.setIfInBounds_toArray, List.set_cons_zero, List.set_cons_succ, i64_w, i32_w]
                            rfl
                          refine pure_ (i := 12) (N := some 69) (v := ?_) (a' := ?_) #[true, true, true, true, true, true, true, true, true, true, true, true, true, false] rfl rfl (any_of HT_.out (by kernel_rfl)) (fun _ _ _ h => h) (Or.inl ⟨by rfl, ?_⟩) ?_ ?_
                          rotate_left
                          · intro w'
                            go_simp
                            with_reducible rfl
                          rotate_left
                          · simp only [Act.put, List.setIfInBounds_toArray, List.set_cons_zero, List.set_cons_succ, i64_w, i32_w]
                            rfl
                          refine last_ (i := 13) (N := none) #[true, true, true, true, true, true, true, true, true, true, true, true, true, true] rfl rfl (one_of HT_.out (by kernel_rfl)) (by decide) (fun K hK => ?_)
                          refine skip_ (w1 := ?_) (by rfl) rfl ?_ ?_
                          rotate_left
                          · go_simp
                            rfl
                          refine hK.out _ _ ?_
                          clear hK K
                          refine done_ (done_of HT_.out (by kernel_rfl)) ?_
                          have n0_ : Aside0 (Kb.Q (Kd.int .u8) 5 (w100.setCell ⟨go94, ((ji88) : Int).toNat, none⟩ (.int .u8 (Go.bits .xor .u8 (rd y282 (ji88)) (ji93)))) w.heap.size (fun _ => True) (.slice (some ⟨go94, 0, none⟩) y282.length co101) y286) := ⟨by (with_reducible repeat (first | apply Kb.Q_alloc | apply Kb.Q_drewN | apply Kb.Q_drew)); exact HQ102.out⟩
                          have n1_ : Aside0 ((w100.setCell ⟨go94, ((ji88) : Int).toNat, none⟩ (.int .u8 (Go.bits .xor .u8 (rd y282 (ji88)) (ji93)))).heap[gb227]? = some (.cells #[.int .i64 a0_0, .int .i64 a0_1, .int .i64 a0_2, .int .i64 a0_3, .int .i64 a0_4, .int .i64 a0_5, .int .u32 a0_6, .int .u32 a0_7, .string a0_8] 24 (0, 0))) := ⟨by (with_reducible repeat (first | refine blk_drewN ?_ _ | refine blk_drew ?_ | refine blk_alloc ?_ _)); refine blk_far ?_ (by have h_ := Kb.Q_ne HO284.out BK227.out (by decide); intro e_; exact h_ (by rw [e_]; rfl)) _; (with_reducible repeat (first | refine blk_drewN ?_ _ | refine blk_drew ?_ | refine blk_alloc ?_ _)); exact BK227.out⟩
                          have n2_ : Aside0 (Below w.heap.size w (w100.setCell ⟨go94, ((ji88) : Int).toNat, none⟩ (.int .u8 (Go.bits .xor .u8 (rd y282 (ji88)) (ji93))))) := ⟨by repeat (first | (with_reducible first | exact HB.out | apply below_alloc | apply pw_below_drewN | apply below_drew1 | refine below_set ?_ GB94.out | refine below_set ?_ GE227.out) | exact HB.out)⟩
                          (try clear HO284)
                          (try clear BK227)
                          (try clear HB)
                          generalize (w100.setCell ⟨go94, ((ji88) : Int).toNat, none⟩ (.int .u8 (Go.bits .xor .u8 (rd y282 (ji88)) (ji93)))) = w103 at n0_ n1_ n2_ ⊢
                          have HO284 := n0_
                          have BK227 := n1_
                          have HB := n2_
                          clear n0_ n1_ n2_
                          have hcv104 := Kb.Q_string (P := Try.prog) Try.underlying42 Try.underlying5 Try.underlying9 (by exact HO284.out)
                          try go_wp2_with (first | ((with_reducible refine gate_callee (f := 18) rfl ?_); refine goesL_ (some 73) rfl rfl Try.func18 (by kernel_rfl) rfl #[.string (strOfNums y286)] rfl (by (try simp only [List.map_toArray, List.map_cons, List.map_nil]); first | done | rfl | (simp only [List.length_drop, List.length_take]; rfl)) ?_; (with_reducible refine (ip4_Parse.calls (strOfNums y286) t287 t288 t289 t290 t291 t292 t293 t294 t295 t296 t297 _ A95.out).mono ?_); rintro e w105 ⟨rfl, hb⟩; (try clear A95); refine ⟨_, rfl, ?_⟩; have n0_ := Aside0.mk (Kb.Q_below (by (with_reducible repeat (first | apply Kb.Q_alloc | apply Kb.Q_drewN | apply Kb.Q_drew)); exact HO284.out) hb); have n1_ := Aside0.mk (blk_below (g := gb227) (o := .cells #[.int .i64 a0_0, .int .i64 a0_1, .int .i64 a0_2, .int .i64 a0_3, .int .i64 a0_4, .int .i64 a0_5, .int .u32 a0_6, .int .u32 a0_7, .string a0_8] 24 (0, 0)) (by (with_reducible repeat (first | refine blk_drewN ?_ _ | refine blk_drew ?_ | refine blk_alloc ?_ _)); exact BK227.out) hb); have n2_ := Aside0.mk (below_step (by repeat (first | (with_reducible first | exact HB.out | apply below_alloc | apply pw_below_drewN | apply below_drew1 | refine below_set ?_ GE227.out) | exact HB.out)) hb); clear HO284; clear BK227; clear HB; have HO284 := n0_; have BK227 := n1_; have HB := n2_; clear n0_ n1_ n2_; (try clear hb); (try clear hb2); (try clear hk); (try clear hi)) | ((with_reducible refine gate_dst (N := 11) rfl ?_); (try (refine gate_guard (by rfl) ?_; dsimp only)); refine box_event ?hg (N := 11) ?hd (cs := #[.int .i64 0, .int .i64 0, .int .i64 0, .int .i64 0, .int .i64 0, .int .i64 0, .int .u32 0, .int .u32 0, .string (⟨#[]⟩ : ByteArray)]) (t := 24) ?hr ?_; (case hd => rfl); (case hg => rfl); (case hr => first | (go_simp; done) | (go_simp; rfl)); intro gb298 hg w106 hbox hb; have n0_ := Aside0.mk (Kb.Q_below (by (with_reducible repeat (first | apply Kb.Q_alloc | apply Kb.Q_drewN | apply Kb.Q_drew)); exact HO284.out) hb); have n1_ := Aside0.mk (blk_below (g := gb227) (o := .cells #[.int .i64 a0_0, .int .i64 a0_1, .int .i64 a0_2, .int .i64 a0_3, .int .i64 a0_4, .int .i64 a0_5, .int .u32 a0_6, .int .u32 a0_7, .string a0_8] 24 (0, 0)) (by (with_reducible repeat (first | refine blk_drewN ?_ _ | refine blk_drew ?_ | refine blk_alloc ?_ _)); exact BK227.out) hb); have n2_ := Aside0.mk (below_step (by repeat (first | (with_reducible first | exact HB.out | apply below_alloc | apply pw_below_drewN | apply below_drew1 | refine below_set ?_ GE227.out) | exact HB.out)) hb); have n3_ := Aside0.mk (hbox); have n4_ := Aside0.mk ((by rw [hg]; exact (below_size (by repeat (first | (with_reducible first | exact HB.out | apply below_alloc | apply pw_below_drewN | apply below_drew1 | refine below_set ?_ GE227.out) | exact HB.out))) : w.heap.size ≤ gb298)); have n5_ := Aside0.mk ((by rw [hg]; exact (below_size (by repeat (first | (with_reducible first | exact HB.out | apply below_alloc | apply pw_below_drewN | apply below_drew1 | refine below_set ?_ GE227.out) | exact HB.out))) : w.heap.size ≤ gb298)); have n6_ := Aside0.mk ((by rw [hg]; exact Nat.ne_of_lt (blk_lt (g := gb227) (o := .cells #[.int .i64 a0_0, .int .i64 a0_1, .int .i64 a0_2, .int .i64 a0_3, .int .i64 a0_4, .int .i64 a0_5, .int .u32 a0_6, .int .u32 a0_7, .string a0_8] 24 (0, 0)) (by (with_reducible repeat (first | refine blk_drewN ?_ _ | refine blk_drew ?_ | refine blk_alloc ?_ _)); exact BK227.out)) : gb227 ≠ gb298)); have n7_ := Aside0.mk ((by rw [hg]; exact Nat.ne_of_gt (blk_lt (g := gb227) (o := .cells #[.int .i64 a0_0, .int .i64 a0_1, .int .i64 a0_2, .int .i64 a0_3, .int .i64 a0_4, .int .i64 a0_5, .int .u32 a0_6, .int .u32 a0_7, .string a0_8] 24 (0, 0)) (by (with_reducible repeat (first | refine blk_drewN ?_ _ | refine blk_drew ?_ | refine blk_alloc ?_ _)); exact BK227.out)) : gb298 ≠ gb227)); clear HO284; clear BK227; clear HB; have HO284 := n0_; have BK227 := n1_; have HB := n2_; have BK298 := n3_; have GW298 := n4_; have GE298 := n5_; have NB227_298 := n6_; have NB298_227 := n7_; clear n0_ n1_ n2_ n3_ n4_ n5_ n6_ n7_; clear hb hbox hg; have hnb107 := NB298_227.out; have hnc107 := NB227_298.out; have hcz108_0 : w106.cell? ⟨gb298, 0, none⟩ = some (.int .i64 0) := (blk_cell BK298.out 0).trans rfl; have hcz108_1 : w106.cell? ⟨gb298, 1, none⟩ = some (.int .i64 0) := (blk_cell BK298.out 1).trans rfl; have hcz108_2 : w106.cell? ⟨gb298, 2, none⟩ = some (.int .i64 0) := (blk_cell BK298.out 2).trans rfl; have hcz108_3 : w106.cell? ⟨gb298, 3, none⟩ = some (.int .i64 0) := (blk_cell BK298.out 3).trans rfl; have hcz108_4 : w106.cell? ⟨gb298, 4, none⟩ = some (.int .i64 0) := (blk_cell BK298.out 4).trans rfl; have hcz108_5 : w106.cell? ⟨gb298, 5, none⟩ = some (.int .i64 0) := (blk_cell BK298.out 5).trans rfl; have hcz108_6 : w106.cell? ⟨gb298, 6, none⟩ = some (.int .u32 0) := (blk_cell BK298.out 6).trans rfl; have hcz108_7 : w106.cell? ⟨gb298, 7, none⟩ = some (.int .u32 0) := (blk_cell BK298.out 7).trans rfl; have hcz108_8 : w106.cell? ⟨gb298, 8, none⟩ = some (.string (⟨#[]⟩ : ByteArray)) := (blk_cell BK298.out 8).trans rfl; have hfz108_0 := blk_frozen BK298.out 0; have hfz108_1 := blk_frozen BK298.out 1; have hfz108_2 := blk_frozen BK298.out 2; have hfz108_3 := blk_frozen BK298.out 3; have hfz108_4 := blk_frozen BK298.out 4; have hfz108_5 := blk_frozen BK298.out 5; have hfz108_6 := blk_frozen BK298.out 6; have hfz108_7 := blk_frozen BK298.out 7; have hfz108_8 := blk_frozen BK298.out 8))
                          go_ret
                          exact ⟨by first | rfl | (simp [errW_none, errW_some] <;> rfl) | (simp only [← hji88, ← hji91, ← hji93]; first | rfl | (simp [errW_none, errW_some] <;> rfl)) | (simp [*, errW_none, errW_some] <;> rfl), by repeat (first | (with_reducible first | exact HB.out | apply below_alloc | apply pw_below_drewN | apply below_drew1 | refine below_set ?_ GE227.out | refine below_set ?_ GE298.out) | exact HB.out)⟩
                      · rw [if_neg c92] at H
                        exact absurd H (by simp)
                    · rw [if_neg c90] at H
                      exact absurd H (by simp)
                  · rw [if_neg c89] at H
                    exact absurd H (by simp)
                · rw [if_neg c87] at H
                  exact absurd H (by simp)
  · replace c5 := Bool.eq_false_iff.mpr c5
    subst c5
    have H1 : (some false) = some r := by rw [if_neg (show ¬ (false = true) by decide)] at H; exact H
    clear H
    have H := H1
    clear H1
    exact absurd ((Option.some.inj H).trans hr_) (by decide)

/-- THE ONE PURE STATEMENT of weighbridgelaw04_Ip4Bit: yours. -/
def weighbridgelaw04_Ip4Bit.Pure : Prop := ∀ (a0_0 : Int) (a0_1 : Int) (a0_2 : Int) (a0_3 : Int) (a0_4 : Int) (a0_5 : Int) (a0_6 : Int) (a0_7 : Int) (a0_8 : ByteArray) (a1 : ByteArray) (a2 : Int), (Lit.int .i64 a0_0).wf = true → (Lit.int .i64 a0_1).wf = true → (Lit.int .i64 a0_2).wf = true → (Lit.int .i64 a0_3).wf = true → (Lit.int .i64 a0_4).wf = true → (Lit.int .i64 a0_5).wf = true → (Lit.int .u32 a0_6).wf = true → (Lit.int .u32 a0_7).wf = true → a0_8.size ≤ 140737488351232 → a1.size ≤ 140737488351232 → (Lit.int .i64 a2).wf = true → ∃ k, weighbridgelaw04_Ip4Bit.f k a0_0 a0_1 a0_2 a0_3 a0_4 a0_5 a0_6 a0_7 a0_8 a1 a2 = some true
theorem weighbridgelaw04_Ip4Bit.walk (P : weighbridgelaw04_Ip4Bit.Pure) (a0_0 : Int) (a0_1 : Int) (a0_2 : Int) (a0_3 : Int) (a0_4 : Int) (a0_5 : Int) (a0_6 : Int) (a0_7 : Int) (a0_8 : ByteArray) (a1 : ByteArray) (a2 : Int) (w : World) (w0_0 : (Lit.int .i64 a0_0).wf = true) (w0_1 : (Lit.int .i64 a0_1).wf = true) (w0_2 : (Lit.int .i64 a0_2).wf = true) (w0_3 : (Lit.int .i64 a0_3).wf = true) (w0_4 : (Lit.int .i64 a0_4).wf = true) (w0_5 : (Lit.int .i64 a0_5).wf = true) (w0_6 : (Lit.int .u32 a0_6).wf = true) (w0_7 : (Lit.int .u32 a0_7).wf = true) (w0_8 : a0_8.size ≤ 140737488351232) (w1 : a1.size ≤ 140737488351232) (w2 : (Lit.int .i64 a2).wf = true) :
    Calls Try.prog 5 #[.agg #[.int .i64 a0_0, .int .i64 a0_1, .int .i64 a0_2, .int .i64 a0_3, .int .i64 a0_4, .int .i64 a0_5, .int .u32 a0_6, .int .u32 a0_7, .string a0_8], .string a1, .int .i64 a2] w fun e w' => e = .returned (.bool true) ∧ Below w.heap.size w w' := by
  obtain ⟨k, h⟩ := P a0_0 a0_1 a0_2 a0_3 a0_4 a0_5 a0_6 a0_7 a0_8 a1 a2 w0_0 w0_1 w0_2 w0_3 w0_4 w0_5 w0_6 w0_7 w0_8 w1 w2
  refine (weighbridgelaw04_Ip4Bit.calls k a0_0 a0_1 a0_2 a0_3 a0_4 a0_5 a0_6 a0_7 a0_8 a1 a2 true w h rfl).mono ?_
  rintro e w' ⟨rfl, hd⟩
  exact ⟨rfl, hd⟩
def weighbridgelaw04_Ip4Bit.PureU : Prop := ∀ (a0_0 : Int) (a0_1 : Int) (a0_2 : Int) (a0_3 : Int) (a0_4 : Int) (a0_5 : Int) (a0_6 : Int) (a0_7 : Int) (a0_8 : ByteArray) (a1 : ByteArray) (a2 : Int), (Lit.int .i64 a0_0).wf = true → (Lit.int .i64 a0_1).wf = true → (Lit.int .i64 a0_2).wf = true → (Lit.int .i64 a0_3).wf = true → (Lit.int .i64 a0_4).wf = true → (Lit.int .i64 a0_5).wf = true → (Lit.int .u32 a0_6).wf = true → (Lit.int .u32 a0_7).wf = true → a0_8.size ≤ 1048576 → a1.size ≤ 1048576 → (Lit.int .i64 a2).wf = true → ∃ k, weighbridgelaw04_Ip4Bit.f k a0_0 a0_1 a0_2 a0_3 a0_4 a0_5 a0_6 a0_7 a0_8 a1 a2 = some true
theorem weighbridgelaw04_Ip4Bit.walkU (P : weighbridgelaw04_Ip4Bit.PureU) (a0_0 : Int) (a0_1 : Int) (a0_2 : Int) (a0_3 : Int) (a0_4 : Int) (a0_5 : Int) (a0_6 : Int) (a0_7 : Int) (a0_8 : ByteArray) (a1 : ByteArray) (a2 : Int) (w : World) (w0_0 : (Lit.int .i64 a0_0).wf = true) (w0_1 : (Lit.int .i64 a0_1).wf = true) (w0_2 : (Lit.int .i64 a0_2).wf = true) (w0_3 : (Lit.int .i64 a0_3).wf = true) (w0_4 : (Lit.int .i64 a0_4).wf = true) (w0_5 : (Lit.int .i64 a0_5).wf = true) (w0_6 : (Lit.int .u32 a0_6).wf = true) (w0_7 : (Lit.int .u32 a0_7).wf = true) (w0_8 : a0_8.size ≤ 1048576) (w1 : a1.size ≤ 1048576) (w2 : (Lit.int .i64 a2).wf = true) :
    Calls Try.prog 5 #[.agg #[.int .i64 a0_0, .int .i64 a0_1, .int .i64 a0_2, .int .i64 a0_3, .int .i64 a0_4, .int .i64 a0_5, .int .u32 a0_6, .int .u32 a0_7, .string a0_8], .string a1, .int .i64 a2] w fun e w' => e = .returned (.bool true) ∧ Below w.heap.size w w' := by
  obtain ⟨k, h⟩ := P a0_0 a0_1 a0_2 a0_3 a0_4 a0_5 a0_6 a0_7 a0_8 a1 a2 w0_0 w0_1 w0_2 w0_3 w0_4 w0_5 w0_6 w0_7 w0_8 w1 w2
  refine (weighbridgelaw04_Ip4Bit.calls k a0_0 a0_1 a0_2 a0_3 a0_4 a0_5 a0_6 a0_7 a0_8 a1 a2 true w h rfl).mono ?_
  rintro e w' ⟨rfl, hd⟩
  exact ⟨rfl, hd⟩

end Go.Proofs.Ythdaldicdhpnoaa.Pr
