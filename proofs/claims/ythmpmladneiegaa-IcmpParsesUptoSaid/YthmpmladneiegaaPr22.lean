-- Written by a program of the session (wip/tools) out of the translation, over the kit's print; with pieces of the session's own.
import Derived.Test.YthmpmladneiegaaPr0
import Derived.Test.YthmpmladneiegaaPr2
import Derived.Test.YthmpmladneiegaaPr16
import Derived.Test.YthmpmladneiegaaPr18
import Derived.Test.YthmpmladneiegaaPr20
namespace Go.Proofs.Ythmpmladneiegaa.Pr
open Go.RowKit Go.Proofs.YthmpmladneiegaaW.PrintWords Go.Proofs.YthmpmladneiegaaW.PrintLast Go.Proofs.YthmpmladneiegaaW.PrintMore
attribute [local go_sem] max2_int min2_int max_two min_two max_three min_three max_four min_four   -- for this text's walks alone
set_option linter.unusedVariables false
set_option linter.unusedSimpArgs false
open Go.Proofs.Ythmpmladneiegaa.Sp
attribute [local go_sem high] eqA48
/-! ### weighbridgelaw07_IcmpParses: function 10 -/
def weighbridgelaw07_IcmpParses.j0 : Nat → ByteArray → Int → Int → Bool → ByteArray → Bool → Option (Bool)
  | 0, _, _, _, _, _, _ => none
  | k + 1, x0, x3, x4, x11, x12, x32 => if x32 = true then (if x12.size ≤ 281474976710656 then ((some (numsOf x12 : List Int)).bind fun y300 => (if x3 < 0 then (if (y300.length : Int) = 0 then (none) else (if 0 ≤ (Int.tmod (wrap64 (-(wrap64 (x3 + 1)))) (y300.length : Int)) then (if (Int.tmod (wrap64 (-(wrap64 (x3 + 1)))) (y300.length : Int)) < (y300.length : Int) then ((some (y300.set ((Int.tmod (wrap64 (-(wrap64 (x3 + 1)))) (y300.length : Int)) : Int).toNat (Go.bits .xor .u8 (rd y300 (Int.tmod (wrap64 (-(wrap64 (x3 + 1)))) (y300.length : Int))) x4) : List Int)).bind fun y304 => ((icmp_Parse.f (strOfNums y304)).bind fun bt305 => ((weighbridgeref07_Parse.f (strOfNums y304)).bind fun bt311 => (if x11 = true then ((weighbridgelaw07_ref.f bt305.1 bt305.2.1 bt305.2.2.1 bt305.2.2.2.1).bind fun bt317 => (if (bt317.1 == bt311.1 && (bt317.2.1 == bt311.2.1 && (bt317.2.2.1 == bt311.2.2.1 && (bt317.2.2.2.toList == bt311.2.2.2.1.toList)))) = true then (some (bt305.2.2.2.2 == bt311.2.2.2.2)) else (some false))) else (some false))))) else (none)) else (none))) else (if (y300.length : Int) = 0 then (none) else (if 0 ≤ (Int.tmod x3 (y300.length : Int)) then (if (Int.tmod x3 (y300.length : Int)) < (y300.length : Int) then ((some (y300.set ((Int.tmod x3 (y300.length : Int)) : Int).toNat (Go.bits .xor .u8 (rd y300 (Int.tmod x3 (y300.length : Int))) x4) : List Int)).bind fun y322 => ((icmp_Parse.f (strOfNums y322)).bind fun bt323 => ((weighbridgeref07_Parse.f (strOfNums y322)).bind fun bt329 => (if x11 = true then ((weighbridgelaw07_ref.f bt323.1 bt323.2.1 bt323.2.2.1 bt323.2.2.2.1).bind fun bt335 => (if (bt335.1 == bt329.1 && (bt335.2.1 == bt329.2.1 && (bt335.2.2.1 == bt329.2.2.1 && (bt335.2.2.2.toList == bt329.2.2.2.1.toList)))) = true then (some (bt323.2.2.2.2 == bt329.2.2.2.2)) else (some false))) else (some false))))) else (none)) else (none))))) else (none)) else ((icmp_Parse.f x0).bind fun bt339 => ((weighbridgeref07_Parse.f x0).bind fun bt345 => (if x11 = true then ((weighbridgelaw07_ref.f bt339.1 bt339.2.1 bt339.2.2.1 bt339.2.2.2.1).bind fun bt351 => (if (bt351.1 == bt345.1 && (bt351.2.1 == bt345.2.1 && (bt351.2.2.1 == bt345.2.2.1 && (bt351.2.2.2.toList == bt345.2.2.2.1.toList)))) = true then (some (bt339.2.2.2.2 == bt345.2.2.2.2)) else (some false))) else (some false))))
def weighbridgelaw07_IcmpParses.f (k : Nat) (a0 : ByteArray) (a1_0 : Int) (a1_1 : Int) (a1_2 : Int) (a1_3 : ByteArray) (a2 : Bool) (a3 : Int) (a4 : Int) : Option (Bool) := (weighbridgelaw07_examples.f).bind fun t293 => (if t293 = true then ((weighbridgelaw07_ref.f a1_0 a1_1 a1_2 a1_3).bind fun bt294 => ((weighbridgeref07_Build.f bt294.1 bt294.2.1 bt294.2.2.1 bt294.2.2.2).bind fun bt298 => (if a2 = true then (weighbridgelaw07_IcmpParses.j0 k a0 a3 a4 t293 bt298.1 (bt298.2 == 0)) else (weighbridgelaw07_IcmpParses.j0 k a0 a3 a4 t293 bt298.1 false)))) else (some false))
theorem weighbridgelaw07_IcmpParses.mono_l : ∀ k, (∀ y0 y1 y2 y3 y4 y5, LeO (weighbridgelaw07_IcmpParses.j0 k y0 y1 y2 y3 y4 y5) (weighbridgelaw07_IcmpParses.j0 (k + 1) y0 y1 y2 y3 y4 y5))
  | 0 => fun _ _ _ _ _ _ r h => by simp [weighbridgelaw07_IcmpParses.j0] at h
  | k + 1 => by
    have ih0 := weighbridgelaw07_IcmpParses.mono_l k
    · intro y0 y1 y2 y3 y4 y5
      unfold weighbridgelaw07_IcmpParses.j0
      repeat' first
      | (with_reducible exact ih0 _ _ _ _ _ _)
      | (with_reducible exact LeO.refl _)
      | (with_reducible exact LeO.none _)
      | (with_reducible refine LeO.ite ?_ ?_)
      | (with_reducible refine LeO.bind ?_ (fun _ => ?_))
      | exact ih0 _ _ _ _ _ _
      | exact LeO.none _
      | refine LeO.ite ?_ ?_
      | refine LeO.bind ?_ (fun _ => ?_)
theorem weighbridgelaw07_IcmpParses.mono : ∀ a0 a1 a2 a3 a4 a5 a6 a7 k, LeO (weighbridgelaw07_IcmpParses.f k a0 a1 a2 a3 a4 a5 a6 a7) (weighbridgelaw07_IcmpParses.f (k + 1) a0 a1 a2 a3 a4 a5 a6 a7) := by
  intro a0 a1 a2 a3 a4 a5 a6 a7 k
  have ih0 := weighbridgelaw07_IcmpParses.mono_l k
  unfold weighbridgelaw07_IcmpParses.f
  repeat' first
      | (with_reducible exact ih0 _ _ _ _ _ _)
      | (with_reducible exact LeO.refl _)
      | (with_reducible exact LeO.none _)
      | (with_reducible refine LeO.ite ?_ ?_)
      | (with_reducible refine LeO.bind ?_ (fun _ => ?_))
      | exact ih0 _ _ _ _ _ _
      | exact LeO.none _
      | refine LeO.ite ?_ ?_
      | refine LeO.bind ?_ (fun _ => ?_)
def weighbridgelaw07_IcmpParses.T9 : Bool × List (List Nat × List Nat) := (true, [([], []), ([], []), ([], []), ([2], [2]), ([1, 3], [1, 3]), ([], []), ([], []), ([], []), ([7], [7]), ([6, 8], [6, 8]), ([5, 9], [5, 9]), ([10], [10]), ([], []), ([11, 12], [11, 12]), ([0, 4, 0, 1, 2, 3, 4, 5, 6, 7, 8, 9, 10, 11, 12, 13], [0, 4]), ([14, 13, 0, 1, 2, 3, 4, 5, 6, 7, 8, 9, 10, 11, 12, 13], [13, 14])])
def weighbridgelaw07_IcmpParses.B9 : List Nat := [0, 0, 0, 4, 14, 0, 0, 0, 128, 448, 992, 2016, 0, 8160, 16383, 32767]
theorem weighbridgelaw07_IcmpParses.tab9 : rtab .any (opsOf Try.f10 9) = weighbridgelaw07_IcmpParses.T9 := by kernel_rfl
theorem weighbridgelaw07_IcmpParses.bits9 : waitsOk weighbridgelaw07_IcmpParses.T9.2 weighbridgelaw07_IcmpParses.B9 = true := by kernel_rfl
def weighbridgelaw07_IcmpParses.T13 : Bool × List (List Nat × List Nat) := (true, [([], []), ([0], [0]), ([1], [1]), ([2, 1, 1], [1, 2]), ([1], [1]), ([3, 4, 1], [1, 3, 4]), ([1, 5], [1, 5]), ([6, 3], [6]), ([7], [7]), ([7], [7]), ([8, 9, 7], [7, 8, 9]), ([7, 10], [7, 10]), ([11, 7, 0, 1, 2, 3, 4, 5, 6, 7, 8, 9, 10, 11], [11])])
def weighbridgelaw07_IcmpParses.B13 : List Nat := [0, 1, 3, 7, 3, 31, 63, 127, 255, 255, 1023, 2047, 4095]
theorem weighbridgelaw07_IcmpParses.tab13 : rtab .any (opsOf Try.f10 13) = weighbridgelaw07_IcmpParses.T13 := by kernel_rfl
theorem weighbridgelaw07_IcmpParses.bits13 : waitsOk weighbridgelaw07_IcmpParses.T13.2 weighbridgelaw07_IcmpParses.B13 = true := by kernel_rfl
set_option maxHeartbeats 8000000 in
set_option maxRecDepth 100000 in
theorem weighbridgelaw07_IcmpParses.calls (k : Nat) (a0 : ByteArray) (a1_0 : Int) (a1_1 : Int) (a1_2 : Int) (a1_3 : ByteArray) (a2 : Bool) (a3 : Int) (a4 : Int) (r : Bool) (w : World) (h : weighbridgelaw07_IcmpParses.f k a0 a1_0 a1_1 a1_2 a1_3 a2 a3 a4 = some r) (hr_ : r = true) :
    Calls Try.prog 10 #[.string a0, .agg #[.int .i64 a1_0, .int .i64 a1_1, .int .u32 a1_2, .string a1_3], .bool a2, .int .i64 a3, .int .u8 a4] w fun e w' => e = .returned (.bool r) ∧ Below w.heap.size w w' := by
  have hu45 := Try.underlying45
  have hu48 := Try.underlying48
  have HB := Aside0.mk (Below.refl w.heap.size w)
  have H : ((weighbridgelaw07_examples.f).bind fun t293 => (if t293 = true then ((weighbridgelaw07_ref.f a1_0 a1_1 a1_2 a1_3).bind fun bt294 => ((weighbridgeref07_Build.f bt294.1 bt294.2.1 bt294.2.2.1 bt294.2.2.2).bind fun bt298 => (if a2 = true then (weighbridgelaw07_IcmpParses.j0 k a0 a3 a4 t293 bt298.1 (bt298.2 == 0)) else (weighbridgelaw07_IcmpParses.j0 k a0 a3 a4 t293 bt298.1 false)))) else (some false))) = some r := h
  clear h
  replace H := Option.bind_eq_some_iff.mp H
  obtain ⟨t293, A60, H⟩ := H
  replace H : (if t293 = true then ((weighbridgelaw07_ref.f a1_0 a1_1 a1_2 a1_3).bind fun bt294 => ((weighbridgeref07_Build.f bt294.1 bt294.2.1 bt294.2.2.1 bt294.2.2.2).bind fun bt298 => (if a2 = true then (weighbridgelaw07_IcmpParses.j0 k a0 a3 a4 t293 bt298.1 (bt298.2 == 0)) else (weighbridgelaw07_IcmpParses.j0 k a0 a3 a4 t293 bt298.1 false)))) else (some false)) = some r := H
  have A6 := Aside0.mk A60
  clear A60
  by_cases c7 : t293 = true
  · subst c7
    have H1 : ((weighbridgelaw07_ref.f a1_0 a1_1 a1_2 a1_3).bind fun bt294 => ((weighbridgeref07_Build.f bt294.1 bt294.2.1 bt294.2.2.1 bt294.2.2.2).bind fun bt298 => (if a2 = true then (weighbridgelaw07_IcmpParses.j0 k a0 a3 a4 true bt298.1 (bt298.2 == 0)) else (weighbridgelaw07_IcmpParses.j0 k a0 a3 a4 true bt298.1 false)))) = some r := by rw [if_pos rfl] at H; exact H
    clear H
    have H := H1
    clear H1
    replace H := Option.bind_eq_some_iff.mp H
    obtain ⟨⟨t294, t295, t296, t297⟩, A80, H⟩ := H
    replace H : ((weighbridgeref07_Build.f t294 t295 t296 t297).bind fun bt298 => (if a2 = true then (weighbridgelaw07_IcmpParses.j0 k a0 a3 a4 true bt298.1 (bt298.2 == 0)) else (weighbridgelaw07_IcmpParses.j0 k a0 a3 a4 true bt298.1 false))) = some r := H
    have A8 := Aside0.mk A80
    clear A80
    replace H := Option.bind_eq_some_iff.mp H
    obtain ⟨⟨t298, t299⟩, A90, H⟩ := H
    replace H : (if a2 = true then (weighbridgelaw07_IcmpParses.j0 k a0 a3 a4 true t298 (t299 == 0)) else (weighbridgelaw07_IcmpParses.j0 k a0 a3 a4 true t298 false)) = some r := H
    have A9 := Aside0.mk A90
    clear A90
    have HC10 := Aside0.mk H
    clear H
    go_enter Try.func10, Try.ntmps10
    go_upto_region 5 with (first | ((with_reducible refine gate_dst (N := 6) rfl ?_); refine box_event ?hg (N := 6) ?hd (cs := #[.int .i64 a1_0, .int .i64 a1_1, .int .u32 a1_2, .string a1_3]) (t := 45) ?hr ?_; (case hd => rfl); (case hg => rfl); (case hr => first | (go_simp; done) | (go_simp; rfl)); intro gb292 hg w11 hbox hb; have n0_ := Aside0.mk (below_step (by repeat (first | (with_reducible first | exact HB.out | apply below_alloc | apply pw_below_drewN | apply below_drew1) | exact HB.out)) hb); have n1_ := Aside0.mk (hbox); have n2_ := Aside0.mk ((by rw [hg]; exact (below_size (by repeat (first | (with_reducible first | exact HB.out | apply below_alloc | apply pw_below_drewN | apply below_drew1) | exact HB.out))) : w.heap.size ≤ gb292)); have n3_ := Aside0.mk ((by rw [hg]; exact (below_size (by repeat (first | (with_reducible first | exact HB.out | apply below_alloc | apply pw_below_drewN | apply below_drew1) | exact HB.out))) : w.heap.size ≤ gb292)); clear HB; have HB := n0_; have BK292 := n1_; have GW292 := n2_; have GE292 := n3_; clear n0_ n1_ n2_ n3_; clear hb hbox hg) | ((with_reducible refine gate_callee (f := 21) rfl ?_); refine goesL_ (some 19) rfl rfl Try.func21 (by kernel_rfl) rfl #[] rfl (by (try simp only [List.map_toArray, List.map_cons, List.map_nil]); first | done | rfl | (simp only [List.length_drop, List.length_take]; rfl)) ?_; (with_reducible refine (weighbridgelaw07_examples.calls  true _ A6.out).mono ?_); rintro e w12 ⟨rfl, hb⟩; refine ⟨_, rfl, ?_⟩; have n0_ := Aside0.mk (blk_below (g := gb292) (o := .cells #[.int .i64 a1_0, .int .i64 a1_1, .int .u32 a1_2, .string a1_3] 45 (0, 0)) (by (with_reducible repeat (first | refine blk_drewN ?_ _ | refine blk_drew ?_ | refine blk_alloc ?_ _)); exact BK292.out) hb); have n1_ := Aside0.mk (below_step (by repeat (first | (with_reducible first | exact HB.out | apply below_alloc | apply pw_below_drewN | apply below_drew1 | refine below_set ?_ GE292.out) | exact HB.out)) hb); clear BK292; clear HB; have BK292 := n0_; have HB := n1_; clear n0_ n1_; (try clear hb); (try clear hb2); (try clear hk); (try clear hi); have hcz13_0 : w12.cell? ⟨gb292, 0, none⟩ = some (.int .i64 a1_0) := (blk_cell BK292.out 0).trans rfl; have hcz13_1 : w12.cell? ⟨gb292, 1, none⟩ = some (.int .i64 a1_1) := (blk_cell BK292.out 1).trans rfl; have hcz13_2 : w12.cell? ⟨gb292, 2, none⟩ = some (.int .u32 a1_2) := (blk_cell BK292.out 2).trans rfl; have hcz13_3 : w12.cell? ⟨gb292, 3, none⟩ = some (.string a1_3) := (blk_cell BK292.out 3).trans rfl; have hfz13_0 := blk_frozen BK292.out 0; have hfz13_1 := blk_frozen BK292.out 1; have hfz13_2 := blk_frozen BK292.out 2; have hfz13_3 := blk_frozen BK292.out 3) | ((with_reducible refine gate_callee (f := 24) rfl ?_); refine goesL_ (some 24) rfl rfl Try.func24 (by kernel_rfl) rfl #[.agg #[.int .i64 a1_0, .int .i64 a1_1, .int .u32 a1_2, .string a1_3]] rfl (by (try simp only [List.map_toArray, List.map_cons, List.map_nil]); first | done | rfl | (simp only [List.length_drop, List.length_take]; rfl)) ?_; (with_reducible refine (weighbridgelaw07_ref.calls a1_0 a1_1 a1_2 a1_3 t294 t295 t296 t297 _ A8.out).mono ?_); rintro e w14 ⟨rfl, hb⟩; refine ⟨_, rfl, ?_⟩; have n0_ := Aside0.mk (blk_below (g := gb292) (o := .cells #[.int .i64 a1_0, .int .i64 a1_1, .int .u32 a1_2, .string a1_3] 45 (0, 0)) (by (with_reducible repeat (first | refine blk_drewN ?_ _ | refine blk_drew ?_ | refine blk_alloc ?_ _)); exact BK292.out) hb); have n1_ := Aside0.mk (below_step (by repeat (first | (with_reducible first | exact HB.out | apply below_alloc | apply pw_below_drewN | apply below_drew1 | refine below_set ?_ GE292.out) | exact HB.out)) hb); clear BK292; clear HB; have BK292 := n0_; have HB := n1_; clear n0_ n1_; (try clear hb); (try clear hb2); (try clear hk); (try clear hi)) | ((with_reducible refine gate_callee (f := 23) rfl ?_); refine goesL_ (some 25) rfl rfl Try.func23 (by kernel_rfl) rfl #[.agg #[.int .i64 t294, .int .i64 t295, .int .u32 t296, .string t297]] rfl (by (try simp only [List.map_toArray, List.map_cons, List.map_nil]); first | done | rfl | (simp only [List.length_drop, List.length_take]; rfl)) ?_; (with_reducible refine (weighbridgeref07_Build.calls t294 t295 t296 t297 t298 t299 _ A9.out).mono ?_); rintro e w15 ⟨rfl, hb⟩; refine ⟨_, rfl, ?_⟩; have n0_ := Aside0.mk (blk_below (g := gb292) (o := .cells #[.int .i64 a1_0, .int .i64 a1_1, .int .u32 a1_2, .string a1_3] 45 (0, 0)) (by (with_reducible repeat (first | refine blk_drewN ?_ _ | refine blk_drew ?_ | refine blk_alloc ?_ _)); exact BK292.out) hb); have n1_ := Aside0.mk (below_step (by repeat (first | (with_reducible first | exact HB.out | apply below_alloc | apply pw_below_drewN | apply below_drew1 | refine below_set ?_ GE292.out) | exact HB.out)) hb); clear BK292; clear HB; have BK292 := n0_; have HB := n1_; clear n0_ n1_; (try clear hb); (try clear hb2); (try clear hk); (try clear hi)))
    (try simp only [Act.put, List.setIfInBounds_toArray, List.set_cons_zero, List.set_cons_succ])
    go_cut [32] (fun v32 wc => ∃ (kq : Nat) (x32_9 : Bool), v32 = .bool x32_9 ∧ Aside0 (weighbridgelaw07_IcmpParses.j0 kq a0 a3 a4 true t298 x32_9 = some r) ∧ Aside0 (kq ≤ k) ∧ Aside0 (wc.heap[gb292]? = some (.cells #[.int .i64 a1_0, .int .i64 a1_1, .int .u32 a1_2, .string a1_3] 45 (0, 0))) ∧ Aside0 (Below w.heap.size w wc))
    case first =>
      have H := HC10.out
      clear HC10
      by_cases c16 : a2 = true
      · subst c16
        have H1 : (weighbridgelaw07_IcmpParses.j0 k a0 a3 a4 true t298 (t299 == 0)) = some r := by rw [if_pos rfl] at H; exact H
        clear H
        have H := H1
        clear H1
        have H' := Aside0.mk H
        clear H
        go_wp2
        go_meet
        case rel => exact ⟨_, ((t299 == 0)), (by first | rfl | (simp; done) | (congr 2; simp only [ByteArray.size_extract, ByteArray.size_append]; (try unfold wrap64); omega) | (simp only [ByteArray.size_extract, ByteArray.size_append, Nat.sub_zero]; done) | (congr 1; simp only [ByteArray.size_extract, ByteArray.size_append, Nat.sub_zero]; omega) | (simp [*]; done)), H', ⟨by first | omega | exact Nat.le_refl _⟩, ⟨by (with_reducible repeat (first | refine blk_drewN ?_ _ | refine blk_drew ?_ | refine blk_alloc ?_ _)); exact BK292.out⟩, ⟨by repeat (first | (with_reducible first | exact HB.out | apply below_alloc | apply pw_below_drewN | apply below_drew1 | refine below_set ?_ GE292.out) | exact HB.out)⟩⟩
      · replace c16 := Bool.eq_false_iff.mpr c16
        subst c16
        have H1 : (weighbridgelaw07_IcmpParses.j0 k a0 a3 a4 true t298 false) = some r := by rw [if_neg (show ¬ (false = true) by decide)] at H; exact H
        clear H
        have H := H1
        clear H1
        have H' := Aside0.mk H
        clear H
        go_wp2
        go_meet
        case rel => exact ⟨_, (false), (by first | rfl | (simp; done) | (congr 2; simp only [ByteArray.size_extract, ByteArray.size_append]; (try unfold wrap64); omega) | (simp only [ByteArray.size_extract, ByteArray.size_append, Nat.sub_zero]; done) | (congr 1; simp only [ByteArray.size_extract, ByteArray.size_append, Nat.sub_zero]; omega) | (simp [*]; done)), H', ⟨by first | omega | exact Nat.le_refl _⟩, ⟨by (with_reducible repeat (first | refine blk_drewN ?_ _ | refine blk_drew ?_ | refine blk_alloc ?_ _)); exact BK292.out⟩, ⟨by repeat (first | (with_reducible first | exact HB.out | apply below_alloc | apply pw_below_drewN | apply below_drew1 | refine below_set ?_ GE292.out) | exact HB.out)⟩⟩
    case rest =>
      clear HC10
      try clear c1
      try clear c2
      try clear p2
      try clear c7
      try clear c10
      try clear c16
      try clear hcz13_0
      try clear hcz13_1
      try clear hcz13_2
      try clear hcz13_3
      try clear hfz13_0
      try clear hfz13_1
      try clear hfz13_2
      try clear hfz13_3
      obtain ⟨kq, x32_9, rfl, HA, HJ9, BK292, HB⟩ := hcut
      cases kq with
      | zero => exact absurd HA.out (by simp [weighbridgelaw07_IcmpParses.j0])
      | succ kj9 =>
        have H := HA.out
        clear HA
        simp only [weighbridgelaw07_IcmpParses.j0] at H
        by_cases c17 : x32_9 = true
        · subst c17
          have H1 : (if t298.size ≤ 281474976710656 then ((some (numsOf t298 : List Int)).bind fun y300 => (if a3 < 0 then (if (y300.length : Int) = 0 then (none) else (if 0 ≤ (Int.tmod (wrap64 (-(wrap64 (a3 + 1)))) (y300.length : Int)) then (if (Int.tmod (wrap64 (-(wrap64 (a3 + 1)))) (y300.length : Int)) < (y300.length : Int) then ((some (y300.set ((Int.tmod (wrap64 (-(wrap64 (a3 + 1)))) (y300.length : Int)) : Int).toNat (Go.bits .xor .u8 (rd y300 (Int.tmod (wrap64 (-(wrap64 (a3 + 1)))) (y300.length : Int))) a4) : List Int)).bind fun y304 => ((icmp_Parse.f (strOfNums y304)).bind fun bt305 => ((weighbridgeref07_Parse.f (strOfNums y304)).bind fun bt311 => (if true = true then ((weighbridgelaw07_ref.f bt305.1 bt305.2.1 bt305.2.2.1 bt305.2.2.2.1).bind fun bt317 => (if (bt317.1 == bt311.1 && (bt317.2.1 == bt311.2.1 && (bt317.2.2.1 == bt311.2.2.1 && (bt317.2.2.2.toList == bt311.2.2.2.1.toList)))) = true then (some (bt305.2.2.2.2 == bt311.2.2.2.2)) else (some false))) else (some false))))) else (none)) else (none))) else (if (y300.length : Int) = 0 then (none) else (if 0 ≤ (Int.tmod a3 (y300.length : Int)) then (if (Int.tmod a3 (y300.length : Int)) < (y300.length : Int) then ((some (y300.set ((Int.tmod a3 (y300.length : Int)) : Int).toNat (Go.bits .xor .u8 (rd y300 (Int.tmod a3 (y300.length : Int))) a4) : List Int)).bind fun y322 => ((icmp_Parse.f (strOfNums y322)).bind fun bt323 => ((weighbridgeref07_Parse.f (strOfNums y322)).bind fun bt329 => (if true = true then ((weighbridgelaw07_ref.f bt323.1 bt323.2.1 bt323.2.2.1 bt323.2.2.2.1).bind fun bt335 => (if (bt335.1 == bt329.1 && (bt335.2.1 == bt329.2.1 && (bt335.2.2.1 == bt329.2.2.1 && (bt335.2.2.2.toList == bt329.2.2.2.1.toList)))) = true then (some (bt323.2.2.2.2 == bt329.2.2.2.2)) else (some false))) else (some false))))) else (none)) else (none))))) else (none)) = some r := by rw [if_pos rfl] at H; exact H
          clear H
          have H := H1
          clear H1
          by_cases c18 : t298.size ≤ 281474976710656
          · rw [if_pos c18] at H
            have c18b0 := eq_true c18
            have c18b1 : decide (t298.size ≤ 281474976710656) = true := decide_eq_true c18
            clear c18
            obtain ⟨y300, hy300⟩ : ∃ y_ : List Int, y_ = (numsOf t298) := ⟨_, rfl⟩
            replace H : (if a3 < 0 then (if (y300.length : Int) = 0 then (none) else (if 0 ≤ (Int.tmod (wrap64 (-(wrap64 (a3 + 1)))) (y300.length : Int)) then (if (Int.tmod (wrap64 (-(wrap64 (a3 + 1)))) (y300.length : Int)) < (y300.length : Int) then ((some (y300.set ((Int.tmod (wrap64 (-(wrap64 (a3 + 1)))) (y300.length : Int)) : Int).toNat (Go.bits .xor .u8 (rd y300 (Int.tmod (wrap64 (-(wrap64 (a3 + 1)))) (y300.length : Int))) a4) : List Int)).bind fun y304 => ((icmp_Parse.f (strOfNums y304)).bind fun bt305 => ((weighbridgeref07_Parse.f (strOfNums y304)).bind fun bt311 => (if true = true then ((weighbridgelaw07_ref.f bt305.1 bt305.2.1 bt305.2.2.1 bt305.2.2.2.1).bind fun bt317 => (if (bt317.1 == bt311.1 && (bt317.2.1 == bt311.2.1 && (bt317.2.2.1 == bt311.2.2.1 && (bt317.2.2.2.toList == bt311.2.2.2.1.toList)))) = true then (some (bt305.2.2.2.2 == bt311.2.2.2.2)) else (some false))) else (some false))))) else (none)) else (none))) else (if (y300.length : Int) = 0 then (none) else (if 0 ≤ (Int.tmod a3 (y300.length : Int)) then (if (Int.tmod a3 (y300.length : Int)) < (y300.length : Int) then ((some (y300.set ((Int.tmod a3 (y300.length : Int)) : Int).toNat (Go.bits .xor .u8 (rd y300 (Int.tmod a3 (y300.length : Int))) a4) : List Int)).bind fun y322 => ((icmp_Parse.f (strOfNums y322)).bind fun bt323 => ((weighbridgeref07_Parse.f (strOfNums y322)).bind fun bt329 => (if true = true then ((weighbridgelaw07_ref.f bt323.1 bt323.2.1 bt323.2.2.1 bt323.2.2.2.1).bind fun bt335 => (if (bt335.1 == bt329.1 && (bt335.2.1 == bt329.2.1 && (bt335.2.2.1 == bt329.2.2.1 && (bt335.2.2.2.toList == bt329.2.2.2.1.toList)))) = true then (some (bt323.2.2.2.2 == bt329.2.2.2.2)) else (some false))) else (some false))))) else (none)) else (none)))) = some r := by first | (rw [hy300]; with_reducible exact H) | (have H2_ := (Option.bind_some _ _).symm.trans H; rw [hy300]; with_reducible exact H2_) | (have H2_ := (Option.bind_some _ _).symm.trans H; with_reducible exact H2_) | with_reducible exact H | (rw [hy300]; exact H) | exact H
            have Ny300 := Aside0.mk hy300
            clear hy300
            by_cases c19 : a3 < 0
            · rw [if_pos c19] at H
              have c19b0 : decide (a3 < 0) = true := decide_eq_true c19
              clear c19
              by_cases c20 : (y300.length : Int) = 0
              · rw [if_pos c20] at H
                exact absurd H (by simp)
              · rw [if_neg c20] at H
                have c20b0 : ((y300.length : Int) == 0) = false := beq_eq_false_iff_ne.mpr c20
                have c20b1 : ((y300.length : Int) != 0) = true := bne_iff_ne.mpr c20
                have c20b2 : ¬ (y300 = []) := fun h_ => c20 (by rw [h_]; rfl)
                obtain ⟨ji21, hji21⟩ : ∃ j_ : Int, (Int.tmod (wrap64 (-(wrap64 (a3 + 1)))) (y300.length : Int)) = j_ := ⟨_, rfl⟩
                replace H : (if 0 ≤ (ji21) then (if (ji21) < (y300.length : Int) then ((some (y300.set ((ji21) : Int).toNat (Go.bits .xor .u8 (rd y300 (ji21)) a4) : List Int)).bind fun y304 => ((icmp_Parse.f (strOfNums y304)).bind fun bt305 => ((weighbridgeref07_Parse.f (strOfNums y304)).bind fun bt311 => (if true = true then ((weighbridgelaw07_ref.f bt305.1 bt305.2.1 bt305.2.2.1 bt305.2.2.2.1).bind fun bt317 => (if (bt317.1 == bt311.1 && (bt317.2.1 == bt311.2.1 && (bt317.2.2.1 == bt311.2.2.1 && (bt317.2.2.2.toList == bt311.2.2.2.1.toList)))) = true then (some (bt305.2.2.2.2 == bt311.2.2.2.2)) else (some false))) else (some false))))) else (none)) else (none)) = some r := by first | (rw [hji21] at H; exact H) | (simp only [hji21] at H ⊢; exact H)
                by_cases c22 : 0 ≤ (ji21)
                · rw [if_pos c22] at H
                  have c22b0 : decide (0 ≤ (ji21)) = true := decide_eq_true c22
                  clear c22
                  by_cases c23 : (ji21) < (y300.length : Int)
                  · rw [if_pos c23] at H
                    have c23b0 : decide ((ji21) < (y300.length : Int)) = true := decide_eq_true c23
                    clear c23
                    obtain ⟨y304, hy304⟩ : ∃ y_ : List Int, y_ = (y300.set ((ji21) : Int).toNat (Go.bits .xor .u8 (rd y300 (ji21)) a4)) := ⟨_, rfl⟩
                    replace H : ((icmp_Parse.f (strOfNums y304)).bind fun bt305 => ((weighbridgeref07_Parse.f (strOfNums y304)).bind fun bt311 => (if true = true then ((weighbridgelaw07_ref.f bt305.1 bt305.2.1 bt305.2.2.1 bt305.2.2.2.1).bind fun bt317 => (if (bt317.1 == bt311.1 && (bt317.2.1 == bt311.2.1 && (bt317.2.2.1 == bt311.2.2.1 && (bt317.2.2.2.toList == bt311.2.2.2.1.toList)))) = true then (some (bt305.2.2.2.2 == bt311.2.2.2.2)) else (some false))) else (some false)))) = some r := by first | (rw [hy304]; with_reducible exact H) | (have H2_ := (Option.bind_some _ _).symm.trans H; rw [hy304]; with_reducible exact H2_) | (have H2_ := (Option.bind_some _ _).symm.trans H; with_reducible exact H2_) | with_reducible exact H | (rw [hy304]; exact H) | exact H
                    have Ny304 := Aside0.mk hy304
                    clear hy304
                    replace H := Option.bind_eq_some_iff.mp H
                    obtain ⟨⟨t305, t306, t307, t308, t309⟩, A250, H⟩ := H
                    replace H : ((weighbridgeref07_Parse.f (strOfNums y304)).bind fun bt311 => (if true = true then ((weighbridgelaw07_ref.f t305 t306 t307 t308).bind fun bt317 => (if (bt317.1 == bt311.1 && (bt317.2.1 == bt311.2.1 && (bt317.2.2.1 == bt311.2.2.1 && (bt317.2.2.2.toList == bt311.2.2.2.1.toList)))) = true then (some (t309 == bt311.2.2.2.2)) else (some false))) else (some false))) = some r := H
                    have A25 := Aside0.mk A250
                    clear A250
                    replace H := Option.bind_eq_some_iff.mp H
                    obtain ⟨⟨t311, t312, t313, t314, t315⟩, A260, H⟩ := H
                    replace H : (if true = true then ((weighbridgelaw07_ref.f t305 t306 t307 t308).bind fun bt317 => (if (bt317.1 == t311 && (bt317.2.1 == t312 && (bt317.2.2.1 == t313 && (bt317.2.2.2.toList == t314.toList)))) = true then (some (t309 == t315)) else (some false))) else (some false)) = some r := H
                    have A26 := Aside0.mk A260
                    clear A260
                    have c27 : true = true := rfl
                    · clear c27
                      have H1 : ((weighbridgelaw07_ref.f t305 t306 t307 t308).bind fun bt317 => (if (bt317.1 == t311 && (bt317.2.1 == t312 && (bt317.2.2.1 == t313 && (bt317.2.2.2.toList == t314.toList)))) = true then (some (t309 == t315)) else (some false))) = some r := by rw [if_pos rfl] at H; exact H
                      clear H
                      have H := H1
                      clear H1
                      replace H := Option.bind_eq_some_iff.mp H
                      obtain ⟨⟨t317, t318, t319, t320⟩, A280, H⟩ := H
                      replace H : (if (t317 == t311 && (t318 == t312 && (t319 == t313 && (t320.toList == t314.toList)))) = true then (some (t309 == t315)) else (some false)) = some r := H
                      have A28 := Aside0.mk A280
                      clear A280
                      by_cases c29 : (t317 == t311 && (t318 == t312 && (t319 == t313 && (t320.toList == t314.toList)))) = true
                      · rw [if_pos c29] at H
                        have c29b0 : (t317 == t311 && (t318 == t312 && (t319 == t313 && (t320.toList == t314.toList)))) = true := c29
                        (try (have c29b1 : decide (t317 = t311 && (t318 == t312 && (t319 == t313 && (t320.toList == t314.toList)))) = true := by simpa using c29))
                        (try (have c29b2 : (t317 == t311 && (t318 == t312 && (t319 == t313 && (t320.toList == t314.toList)))) = true := by simpa using c29))
                        clear c29
                        obtain rfl := Option.some.inj H
                        try go_wp2_with (first | ((with_reducible refine gate_dst (N := 34) rfl ?_); refine Kb.Q_conv (Kd.int .u8) 5 rfl (N := 34) rfl 9 38 _ rfl t298 rfl Try.underlying9 Try.underlying38 Try.underlying5 (ok := fun _ => True) trivial (of_decide_eq_true (by first | (with_reducible assumption) | assumption)) ?_; intro v301 w30 ho31 hb hg_ hnew_; clear hg_ hnew_; (first | rw [← Ny300.out] at ho31 | (simp only [Int.reduceToNat] at ho31; rw [← Ny300.out] at ho31)); have n0_ := Aside0.mk (Kb.Q_lower ho31 (below_size (by repeat (first | (with_reducible first | exact HB.out | apply below_alloc | apply pw_below_drewN | apply below_drew1 | refine below_set ?_ GE292.out) | exact HB.out)))); have n1_ := Aside0.mk (blk_below (g := gb292) (o := .cells #[.int .i64 a1_0, .int .i64 a1_1, .int .u32 a1_2, .string a1_3] 45 (0, 0)) (by (with_reducible repeat (first | refine blk_drewN ?_ _ | refine blk_drew ?_ | refine blk_alloc ?_ _)); exact BK292.out) hb); have n2_ := Aside0.mk (below_step (by repeat (first | (with_reducible first | exact HB.out | apply below_alloc | apply pw_below_drewN | apply below_drew1 | refine below_set ?_ GE292.out) | exact HB.out)) hb); clear BK292; clear HB; have HO302 := n0_; have BK292 := n1_; have HB := n2_; clear n0_ n1_ n2_; clear hb ho31))
                        have n0_ := Aside0.mk (Kb.Q_drew HO302.out)
                        have n1_ := Aside0.mk (blk_drew BK292.out)
                        have n2_ := Aside0.mk (below_drew1 HB.out)
                        clear HO302
                        clear BK292
                        clear HB
                        have HO302 := n0_
                        have BK292 := n1_
                        have HB := n2_
                        clear n0_ n1_ n2_
                        obtain ⟨Ao33, co33, eo33, _⟩ := Kb.Q_slice HO302.out
                        (first | subst eo33 | (injection eo33 with f1_ f2_ f3_; have f4_ := f1_.symm; have f5_ := f3_.symm; clear f1_ f2_ f3_; subst f4_; subst f5_))
                        have p303 : 0 ≤ ((ji21) : Int) := of_decide_eq_true (by first | (with_reducible assumption) | assumption)
                        have q303 : (ji21) < (y300.length : Int) := of_decide_eq_true (by first | (with_reducible assumption) | assumption)
                        obtain ⟨ad303, e303, hx303_0⟩ := Kd.at_int (Kb.Q_reads' HO302.out).2.2 (ji21) p303 q303
                        cases e303
                        replace p303 := eq_true p303
                        replace q303 := eq_true q303
                        have p24 : 0 ≤ ((ji21) : Int) := of_decide_eq_true (by first | (with_reducible assumption) | assumption)
                        have q24 : ((ji21) : Int) < ((y300.length : Int) : Int) := of_decide_eq_true (by first | (with_reducible assumption) | assumption)
                        obtain ⟨go24, co24, eo24, gb24, gl24, cl24, HG24⟩ := Kb.Q_form HO302.out (by omega)
                        (first | cases eo24 | (injection eo24 with ea_ en_ ec_; (first | subst ea_ | (injection ea_ with ea_; subst ea_)); subst ec_; clear en_))
                        have GB24 := Aside0.mk gb24
                        have GG24 := Aside0.mk HG24
                        clear gb24 gl24 HG24
                        (first | simp only [add_at, Nat.zero_add] at hx303_0 | skip)
                        obtain ⟨hx24_0, hf24_0⟩ := Kb.Q_cell 0 HO302.out ((ji21) : Int) p24 q24
                        replace p24 := eq_true p24
                        replace q24 := eq_true q24
                        have HP34 := (Kb.Q_putg HO302.out ((ji21) : Int) (of_decide_eq_true (by first | (with_reducible assumption) | assumption)) (by have h_ : ((ji21) : Int) < ((y300.length : Int) : Int) := of_decide_eq_true (by first | (with_reducible assumption) | assumption); first | exact h_ | (have e_ := (Kb.Q_reads' HO302.out).1; omega) | simpa using h_) (Go.bits .xor .u8 (rd y300 (ji21)) a4)).1
                        rw [← Ny304.out] at HP34
                        have HQ34 := Aside0.mk HP34
                        clear HP34
                        refine start_ (n := 16) (S := fun w' => w'.cell? ⟨go24, ((ji21)).toNat, none⟩ = some (.int .u8 (rd y300 (ji21)))) (ds := [15]) #[false, false, false, false, false, false, false, false, false, false, false, false, false, false, false, false] (by kernel_rfl) rfl rfl (hx303_0) (fun hHeld => ?_); refine with_tabW weighbridgelaw07_IcmpParses.tab9 weighbridgelaw07_IcmpParses.bits9 (fun HT_ HW_ => ?_)
                        generalize w30.drew = w32 at HO302 BK292 HB GG24 HQ34 hf24_0 hx24_0 hx303_0 hHeld ⊢
                        refine pure_ (i := 0) (N := some 40) (v := ?_) (a' := ?_) #[true, false, false, false, false, false, false, false, false, false, false, false, false, false, false, false] rfl rfl (any_of HT_.out (by kernel_rfl)) (fun _ _ _ h => h) (Or.inl ⟨by rfl, ?_⟩) ?_ ?_
                        rotate_left
                        · intro w'
                          go_simp
                          with_reducible rfl
                        rotate_left
                        · simp only [Act.put, List.setIfInBounds_toArray, List.set_cons_zero, List.set_cons_succ, i64_w, i32_w]
                          rfl
                        refine pure_ (i := 1) (N := some 41) (v := ?_) (a' := ?_) #[true, true, false, false, false, false, false, false, false, false, false, false, false, false, false, false] rfl rfl (any_of HT_.out (by kernel_rfl)) (fun _ _ _ h => h) (Or.inl ⟨by rfl, ?_⟩) ?_ ?_
                        rotate_left
                        · intro w'
                          go_simp
                          with_reducible rfl
                        rotate_left
                        · simp only [Act.put, List.setIfInBounds_toArray, List.set_cons_zero, List.set_cons_succ, i64_w, i32_w]
                          rfl
                        refine pure_ (i := 2) (N := some 42) (v := ?_) (a' := ?_) #[true, true, true, false, false, false, false, false, false, false, false, false, false, false, false, false] rfl rfl (any_of HT_.out (by kernel_rfl)) (fun _ _ _ h => h) (Or.inl ⟨by rfl, ?_⟩) ?_ ?_
                        rotate_left
                        · intro w'
                          go_simp
                          with_reducible rfl
                        rotate_left
                        · simp only [Act.put, List.setIfInBounds_toArray, List.set_cons_zero, List.set_cons_succ, i64_w, i32_w]
                          rfl
                        refine pure_ (i := 3) (N := some 43) (v := ?_) (a' := ?_) #[true, true, true, true, false, false, false, false, false, false, false, false, false, false, false, false] rfl rfl (any_of HT_.out (by kernel_rfl)) (fun _ _ _ h => h) (Or.inl ⟨by rfl, ?_⟩) ?_ ?_
                        rotate_left
                        · intro w'
                          go_simp
                          with_reducible rfl
                        rotate_left
                        · simp only [Act.put, List.setIfInBounds_toArray, List.set_cons_zero, List.set_cons_succ, i64_w, i32_w]
                          rfl
                        refine pure_ (i := 4) (N := some 44) (v := ?_) (a' := ?_) #[true, true, true, true, true, false, false, false, false, false, false, false, false, false, false, false] rfl rfl (any_of HT_.out (by kernel_rfl)) (fun _ _ _ h => h) (Or.inl ⟨by rfl, ?_⟩) ?_ ?_
                        rotate_left
                        · intro w'
                          go_simp
                          with_reducible rfl
                        rotate_left
                        · simp only [Act.put, List.setIfInBounds_toArray, List.set_cons_zero, List.set_cons_succ, i64_w, i32_w]
                          rfl
                        refine pure_ (i := 5) (N := some 45) (v := ?_) (a' := ?_) #[true, true, true, true, true, true, false, false, false, false, false, false, false, false, false, false] rfl rfl (any_of HT_.out (by kernel_rfl)) (fun _ _ _ h => h) (Or.inl ⟨by rfl, ?_⟩) ?_ ?_
                        rotate_left
                        · intro w'
                          go_simp
                          with_reducible rfl
                        rotate_left
                        · simp only [Act.put, List.setIfInBounds_toArray, List.set_cons_zero, List.set_cons_succ, i64_w, i32_w]
                          rfl
                        refine pure_ (i := 6) (N := some 46) (v := ?_) (a' := ?_) #[true, true, true, true, true, true, true, false, false, false, false, false, false, false, false, false] rfl rfl (any_of HT_.out (by kernel_rfl)) (fun _ _ _ h => h) (Or.inl ⟨by rfl, ?_⟩) ?_ ?_
                        rotate_left
                        · intro w'
                          go_simp
                          with_reducible rfl
                        rotate_left
                        · simp only [Act.put, List.setIfInBounds_toArray, List.set_cons_zero, List.set_cons_succ, i64_w, i32_w]
                          rfl
                        refine pure_ (i := 7) (N := some 47) (v := ?_) (a' := ?_) #[true, true, true, true, true, true, true, true, false, false, false, false, false, false, false, false] rfl rfl (any_of HT_.out (by kernel_rfl)) (fun _ _ _ h => h) (Or.inl ⟨by rfl, ?_⟩) ?_ ?_
                        rotate_left
                        · intro w'
                          go_simp
                          with_reducible rfl
                        rotate_left
                        · simp only [Act.put, List.setIfInBounds_toArray, List.set_cons_zero, List.set_cons_succ, i64_w, i32_w]
                          rfl
                        refine pure_ (i := 8) (N := some 48) (v := ?_) (a' := ?_) #[true, true, true, true, true, true, true, true, true, false, false, false, false, false, false, false] rfl rfl (any_of HT_.out (by kernel_rfl)) (fun _ _ _ h => h) (Or.inl ⟨by rfl, ?_⟩) ?_ ?_
                        rotate_left
                        · intro w'
                          go_simp
                          with_reducible rfl
                        rotate_left
                        · simp only [Act.put, List.setIfInBounds_toArray, List.set_cons_zero, List.set_cons_succ, i64_w, i32_w]
                          rfl
                        refine pure_ (i := 9) (N := some 49) (v := ?_) (a' := ?_) #[true, true, true, true, true, true, true, true, true, true, false, false, false, false, false, false] rfl rfl (any_of HT_.out (by kernel_rfl)) (fun _ _ _ h => h) (Or.inl ⟨by rfl, ?_⟩) ?_ ?_
                        rotate_left
                        · intro w'
                          go_simp
                          with_reducible rfl
                        rotate_left
                        · simp only [Act.put, List.setIfInBounds_toArray, List.set_cons_zero, List.set_cons_succ, i64_w, i32_w]
                          rfl
                        refine pure_ (i := 10) (N := some 50) (v := ?_) (a' := ?_) #[true, true, true, true, true, true, true, true, true, true, true, false, false, false, false, false] rfl rfl (any_of HT_.out (by kernel_rfl)) (fun _ _ _ h => h) (Or.inl ⟨by rfl, ?_⟩) ?_ ?_
                        rotate_left
                        · intro w'
                          go_simp
                          with_reducible rfl
                        rotate_left
                        · simp only [Act.put, List.setIfInBounds_toArray, List.set_cons_zero, List.set_cons_succ, i64_w, i32_w]
                          rfl
                        refine pure_ (i := 12) (N := some 52) (v := ?_) (a' := ?_) #[true, true, true, true, true, true, true, true, true, true, true, false, true, false, false, false] rfl rfl (any_of HT_.out (by kernel_rfl)) (fun _ _ _ h => h) (Or.inl ⟨by rfl, ?_⟩) ?_ ?_
                        rotate_left
                        · intro w'
                          go_simp
                          with_reducible rfl
                        rotate_left
                        · simp only [Act.put, List.setIfInBounds_toArray, List.set_cons_zero, List.set_cons_succ, i64_w, i32_w]
                          rfl
                        refine take_ (i := 11) (N := some 51) (v := ?_) (a' := ?_) #[true, true, true, true, true, true, true, true, true, true, true, true, true, false, false, false] rfl rfl (take_ofW HT_.out HW_.out (by kernel_rfl)) (fun _ _ _ h => h) (Or.inl ⟨by rfl, ?_⟩) hHeld ?_ ?_
                        rotate_left
                        · intro w' s0
                          go_simp
                          with_reducible rfl
                        rotate_left
                        · simp only [Act.put, List.setIfInBounds_toArray, List.set_cons_zero, List.set_cons_succ, i64_w, i32_w]
                          rfl
                        refine pure_ (i := 13) (N := some 53) (v := ?_) (a' := ?_) #[true, true, true, true, true, true, true, true, true, true, true, true, true, true, false, false] rfl rfl (any_of HT_.out (by kernel_rfl)) (fun _ _ _ h => h) (Or.inl ⟨by rfl, ?_⟩) ?_ ?_
                        rotate_left
                        · intro w'
                          go_simp
                          with_reducible rfl
                        rotate_left
                        · simp only [Act.put, List.setIfInBounds_toArray, List.set_cons_zero, List.set_cons_succ, i64_w, i32_w]
                          rfl
                        refine pure_ (i := 14) (N := some 54) (v := ?_) (a' := ?_) #[true, true, true, true, true, true, true, true, true, true, true, true, true, true, true, false] rfl rfl (any_of HT_.out (by kernel_rfl)) (fun _ _ _ h => h) (Or.inl ⟨by rfl, ?_⟩) ?_ ?_
                        rotate_left
                        · intro w'
                          go_simp
                          with_reducible rfl
                        rotate_left
                        · simp only [Act.put, List.setIfInBounds_toArray, List.set_cons_zero, List.set_cons_succ, i64_w, i32_w]
                          rfl
                        refine last_ (i := 15) (N := none) #[true, true, true, true, true, true, true, true, true, true, true, true, true, true, true, true] rfl rfl (one_of HT_.out (by kernel_rfl)) (by decide) (fun K hK => ?_)
                        refine skip_ (w1 := ?_) (by rfl) rfl ?_ ?_
                        rotate_left
                        · go_simp
                          rfl
                        refine hK.out _ _ ?_
                        clear hK K
                        refine done_ (done_of HT_.out (by kernel_rfl)) ?_
                        have n0_ : Aside0 (Kb.Q (Kd.int .u8) 5 (w32.setCell ⟨go24, ((ji21) : Int).toNat, none⟩ (.int .u8 (Go.bits .xor .u8 (rd y300 (ji21)) a4))) w.heap.size (fun _ => True) (.slice (some ⟨go24, 0, none⟩) y300.length co33) y304) := ⟨by (with_reducible repeat (first | apply Kb.Q_alloc | apply Kb.Q_drewN | apply Kb.Q_drew)); exact HQ34.out⟩
                        have n1_ : Aside0 ((w32.setCell ⟨go24, ((ji21) : Int).toNat, none⟩ (.int .u8 (Go.bits .xor .u8 (rd y300 (ji21)) a4))).heap[gb292]? = some (.cells #[.int .i64 a1_0, .int .i64 a1_1, .int .u32 a1_2, .string a1_3] 45 (0, 0))) := ⟨by (with_reducible repeat (first | refine blk_drewN ?_ _ | refine blk_drew ?_ | refine blk_alloc ?_ _)); refine blk_far ?_ (by have h_ := Kb.Q_ne HO302.out BK292.out (by decide); intro e_; exact h_ (by rw [e_]; rfl)) _; (with_reducible repeat (first | refine blk_drewN ?_ _ | refine blk_drew ?_ | refine blk_alloc ?_ _)); exact BK292.out⟩
                        have n2_ : Aside0 (Below w.heap.size w (w32.setCell ⟨go24, ((ji21) : Int).toNat, none⟩ (.int .u8 (Go.bits .xor .u8 (rd y300 (ji21)) a4)))) := ⟨by repeat (first | (with_reducible first | exact HB.out | apply below_alloc | apply pw_below_drewN | apply below_drew1 | refine below_set ?_ GB24.out | refine below_set ?_ GE292.out) | exact HB.out)⟩
                        (try clear HO302)
                        (try clear BK292)
                        (try clear HB)
                        generalize (w32.setCell ⟨go24, ((ji21) : Int).toNat, none⟩ (.int .u8 (Go.bits .xor .u8 (rd y300 (ji21)) a4))) = w35 at n0_ n1_ n2_ ⊢
                        have HO302 := n0_
                        have BK292 := n1_
                        have HB := n2_
                        clear n0_ n1_ n2_
                        have hcv36 := Kb.Q_string (P := Try.prog) Try.underlying38 Try.underlying5 Try.underlying9 (HO302.out)
                        try go_wp2_with (first | ((with_reducible refine gate_callee (f := 29) rfl ?_); refine goesL_ (some 59) rfl rfl Try.func29 (by kernel_rfl) rfl #[.string (strOfNums y304)] rfl (by (try simp only [List.map_toArray, List.map_cons, List.map_nil]); first | done | rfl | (simp only [List.length_drop, List.length_take]; rfl)) ?_; (with_reducible refine (icmp_Parse.calls (strOfNums y304) t305 t306 t307 t308 t309 _ A25.out).mono ?_); rintro e w37 ⟨rfl, hb⟩; (try clear A25); refine ⟨_, rfl, ?_⟩; have n0_ := Aside0.mk (Kb.Q_below (by (with_reducible repeat (first | apply Kb.Q_alloc | apply Kb.Q_drewN | apply Kb.Q_drew)); exact HO302.out) hb); have n1_ := Aside0.mk (blk_below (g := gb292) (o := .cells #[.int .i64 a1_0, .int .i64 a1_1, .int .u32 a1_2, .string a1_3] 45 (0, 0)) (by (with_reducible repeat (first | refine blk_drewN ?_ _ | refine blk_drew ?_ | refine blk_alloc ?_ _)); exact BK292.out) hb); have n2_ := Aside0.mk (below_step (by repeat (first | (with_reducible first | exact HB.out | apply below_alloc | apply pw_below_drewN | apply below_drew1 | refine below_set ?_ GE292.out) | exact HB.out)) hb); clear HO302; clear BK292; clear HB; have HO302 := n0_; have BK292 := n1_; have HB := n2_; clear n0_ n1_ n2_; (try clear hb); (try clear hb2); (try clear hk); (try clear hi)) | ((with_reducible refine gate_dst (N := 15) rfl ?_); refine box_event ?hg (N := 15) ?hd (cs := #[.int .i64 0, .int .i64 0, .int .u32 0, .string (⟨#[]⟩ : ByteArray)]) (t := 45) ?hr ?_; (case hd => rfl); (case hg => rfl); (case hr => first | (go_simp; done) | (go_simp; rfl)); intro gb310 hg w38 hbox hb; have n0_ := Aside0.mk (Kb.Q_below (by (with_reducible repeat (first | apply Kb.Q_alloc | apply Kb.Q_drewN | apply Kb.Q_drew)); exact HO302.out) hb); have n1_ := Aside0.mk (blk_below (g := gb292) (o := .cells #[.int .i64 a1_0, .int .i64 a1_1, .int .u32 a1_2, .string a1_3] 45 (0, 0)) (by (with_reducible repeat (first | refine blk_drewN ?_ _ | refine blk_drew ?_ | refine blk_alloc ?_ _)); exact BK292.out) hb); have n2_ := Aside0.mk (below_step (by repeat (first | (with_reducible first | exact HB.out | apply below_alloc | apply pw_below_drewN | apply below_drew1 | refine below_set ?_ GE292.out) | exact HB.out)) hb); have n3_ := Aside0.mk (hbox); have n4_ := Aside0.mk ((by rw [hg]; exact (below_size (by repeat (first | (with_reducible first | exact HB.out | apply below_alloc | apply pw_below_drewN | apply below_drew1 | refine below_set ?_ GE292.out) | exact HB.out))) : w.heap.size ≤ gb310)); have n5_ := Aside0.mk ((by rw [hg]; exact (below_size (by repeat (first | (with_reducible first | exact HB.out | apply below_alloc | apply pw_below_drewN | apply below_drew1 | refine below_set ?_ GE292.out) | exact HB.out))) : w.heap.size ≤ gb310)); have n6_ := Aside0.mk ((by rw [hg]; exact Nat.ne_of_lt (blk_lt (g := gb292) (o := .cells #[.int .i64 a1_0, .int .i64 a1_1, .int .u32 a1_2, .string a1_3] 45 (0, 0)) (by (with_reducible repeat (first | refine blk_drewN ?_ _ | refine blk_drew ?_ | refine blk_alloc ?_ _)); exact BK292.out)) : gb292 ≠ gb310)); have n7_ := Aside0.mk ((by rw [hg]; exact Nat.ne_of_gt (blk_lt (g := gb292) (o := .cells #[.int .i64 a1_0, .int .i64 a1_1, .int .u32 a1_2, .string a1_3] 45 (0, 0)) (by (with_reducible repeat (first | refine blk_drewN ?_ _ | refine blk_drew ?_ | refine blk_alloc ?_ _)); exact BK292.out)) : gb310 ≠ gb292)); clear HO302; clear BK292; clear HB; have HO302 := n0_; have BK292 := n1_; have HB := n2_; have BK310 := n3_; have GW310 := n4_; have GE310 := n5_; have NB292_310 := n6_; have NB310_292 := n7_; clear n0_ n1_ n2_ n3_ n4_ n5_ n6_ n7_; clear hb hbox hg; have hnb39 := NB310_292.out; have hnc39 := NB292_310.out; have hcz40_0 : w38.cell? ⟨gb310, 0, none⟩ = some (.int .i64 0) := (blk_cell BK310.out 0).trans rfl; have hcz40_1 : w38.cell? ⟨gb310, 1, none⟩ = some (.int .i64 0) := (blk_cell BK310.out 1).trans rfl; have hcz40_2 : w38.cell? ⟨gb310, 2, none⟩ = some (.int .u32 0) := (blk_cell BK310.out 2).trans rfl; have hcz40_3 : w38.cell? ⟨gb310, 3, none⟩ = some (.string (⟨#[]⟩ : ByteArray)) := (blk_cell BK310.out 3).trans rfl; have hfz40_0 := blk_frozen BK310.out 0; have hfz40_1 := blk_frozen BK310.out 1; have hfz40_2 := blk_frozen BK310.out 2; have hfz40_3 := blk_frozen BK310.out 3) | ((with_reducible refine gate_callee (f := 30) rfl ?_); refine goesL_ (some 64) rfl rfl Try.func30 (by kernel_rfl) rfl #[.string (strOfNums y304)] rfl (by (try simp only [List.map_toArray, List.map_cons, List.map_nil]); first | done | rfl | (simp only [List.length_drop, List.length_take]; rfl)) ?_; (with_reducible refine (weighbridgeref07_Parse.calls (strOfNums y304) t311 t312 t313 t314 t315 _ A26.out).mono ?_); rintro e w41 ⟨rfl, hb⟩; (try clear A26); refine ⟨_, rfl, ?_⟩; have n0_ := Aside0.mk (Kb.Q_below (by (with_reducible repeat (first | apply Kb.Q_alloc | apply Kb.Q_drewN | apply Kb.Q_drew)); exact (Kb.Q_mono (Kb.Q_far (p := ⟨gb310, 3, none⟩) (Kb.Q_far (p := ⟨gb310, 2, none⟩) (Kb.Q_far (p := ⟨gb310, 1, none⟩) (Kb.Q_far (p := ⟨gb310, 0, none⟩) (Kb.Q_types HO302.out BK310.out (by decide)) (fun _ hk => hk.2) (.int .i64 t305)) (fun _ hk => hk.2) (.int .i64 t306)) (fun _ hk => hk.2) (.int .u32 t307)) (fun _ hk => hk.2) (.string t308)) (fun _ h_ => h_.1))) hb); have n1_ := Aside0.mk (blk_below (g := gb292) (o := .cells #[.int .i64 a1_0, .int .i64 a1_1, .int .u32 a1_2, .string a1_3] 45 (0, 0)) (by (with_reducible repeat (first | refine blk_drewN ?_ _ | refine blk_drew ?_ | refine blk_alloc ?_ _)); refine blk_far ?_ NB292_310.out _; (with_reducible repeat (first | refine blk_drewN ?_ _ | refine blk_drew ?_ | refine blk_alloc ?_ _)); refine blk_far ?_ NB292_310.out _; (with_reducible repeat (first | refine blk_drewN ?_ _ | refine blk_drew ?_ | refine blk_alloc ?_ _)); refine blk_far ?_ NB292_310.out _; (with_reducible repeat (first | refine blk_drewN ?_ _ | refine blk_drew ?_ | refine blk_alloc ?_ _)); refine blk_far ?_ NB292_310.out _; (with_reducible repeat (first | refine blk_drewN ?_ _ | refine blk_drew ?_ | refine blk_alloc ?_ _)); exact BK292.out) hb); have n2_ := Aside0.mk (blk_below (g := gb310) (o := .cells #[.int .i64 t305, .int .i64 t306, .int .u32 t307, .string t308] 45 (0, 0)) (by (with_reducible repeat (first | refine blk_drewN ?_ _ | refine blk_drew ?_ | refine blk_alloc ?_ _)); refine blk_put (cs := #[.int .i64 t305, .int .i64 t306, .int .u32 t307, .string (⟨#[]⟩ : ByteArray)]) ?_ 3 _ rfl; (with_reducible repeat (first | refine blk_drewN ?_ _ | refine blk_drew ?_ | refine blk_alloc ?_ _)); refine blk_put (cs := #[.int .i64 t305, .int .i64 t306, .int .u32 0, .string (⟨#[]⟩ : ByteArray)]) ?_ 2 _ rfl; (with_reducible repeat (first | refine blk_drewN ?_ _ | refine blk_drew ?_ | refine blk_alloc ?_ _)); refine blk_put (cs := #[.int .i64 t305, .int .i64 0, .int .u32 0, .string (⟨#[]⟩ : ByteArray)]) ?_ 1 _ rfl; (with_reducible repeat (first | refine blk_drewN ?_ _ | refine blk_drew ?_ | refine blk_alloc ?_ _)); refine blk_put (cs := #[.int .i64 0, .int .i64 0, .int .u32 0, .string (⟨#[]⟩ : ByteArray)]) ?_ 0 _ rfl; (with_reducible repeat (first | refine blk_drewN ?_ _ | refine blk_drew ?_ | refine blk_alloc ?_ _)); exact BK310.out) hb); have n3_ := Aside0.mk (below_step (by repeat (first | (with_reducible first | exact HB.out | apply below_alloc | apply pw_below_drewN | apply below_drew1 | refine below_set ?_ GE292.out | refine below_set ?_ GE310.out) | exact HB.out)) hb); clear HO302; clear BK292; clear BK310; clear HB; have HO302 := n0_; have BK292 := n1_; have BK310 := n2_; have HB := n3_; clear n0_ n1_ n2_ n3_; (try clear hb); (try clear hb2); (try clear hk); (try clear hi)) | ((with_reducible refine gate_dst (N := 17) rfl ?_); refine box_event ?hg (N := 17) ?hd (cs := #[.int .i64 0, .int .i64 0, .int .u32 0, .string (⟨#[]⟩ : ByteArray)]) (t := 48) ?hr ?_; (case hd => rfl); (case hg => rfl); (case hr => first | (go_simp; done) | (go_simp; rfl)); intro gb316 hg w42 hbox hb; have n0_ := Aside0.mk (Kb.Q_below (by (with_reducible repeat (first | apply Kb.Q_alloc | apply Kb.Q_drewN | apply Kb.Q_drew)); exact HO302.out) hb); have n1_ := Aside0.mk (blk_below (g := gb292) (o := .cells #[.int .i64 a1_0, .int .i64 a1_1, .int .u32 a1_2, .string a1_3] 45 (0, 0)) (by (with_reducible repeat (first | refine blk_drewN ?_ _ | refine blk_drew ?_ | refine blk_alloc ?_ _)); exact BK292.out) hb); have n2_ := Aside0.mk (blk_below (g := gb310) (o := .cells #[.int .i64 t305, .int .i64 t306, .int .u32 t307, .string t308] 45 (0, 0)) (by (with_reducible repeat (first | refine blk_drewN ?_ _ | refine blk_drew ?_ | refine blk_alloc ?_ _)); exact BK310.out) hb); have n3_ := Aside0.mk (below_step (by repeat (first | (with_reducible first | exact HB.out | apply below_alloc | apply pw_below_drewN | apply below_drew1 | refine below_set ?_ GE292.out | refine below_set ?_ GE310.out) | exact HB.out)) hb); have n4_ := Aside0.mk (hbox); have n5_ := Aside0.mk ((by rw [hg]; exact (below_size (by repeat (first | (with_reducible first | exact HB.out | apply below_alloc | apply pw_below_drewN | apply below_drew1 | refine below_set ?_ GE292.out | refine below_set ?_ GE310.out) | exact HB.out))) : w.heap.size ≤ gb316)); have n6_ := Aside0.mk ((by rw [hg]; exact (below_size (by repeat (first | (with_reducible first | exact HB.out | apply below_alloc | apply pw_below_drewN | apply below_drew1 | refine below_set ?_ GE292.out | refine below_set ?_ GE310.out) | exact HB.out))) : w.heap.size ≤ gb316)); have n7_ := Aside0.mk ((by rw [hg]; exact Nat.ne_of_lt (blk_lt (g := gb292) (o := .cells #[.int .i64 a1_0, .int .i64 a1_1, .int .u32 a1_2, .string a1_3] 45 (0, 0)) (by (with_reducible repeat (first | refine blk_drewN ?_ _ | refine blk_drew ?_ | refine blk_alloc ?_ _)); exact BK292.out)) : gb292 ≠ gb316)); have n8_ := Aside0.mk ((by rw [hg]; exact Nat.ne_of_gt (blk_lt (g := gb292) (o := .cells #[.int .i64 a1_0, .int .i64 a1_1, .int .u32 a1_2, .string a1_3] 45 (0, 0)) (by (with_reducible repeat (first | refine blk_drewN ?_ _ | refine blk_drew ?_ | refine blk_alloc ?_ _)); exact BK292.out)) : gb316 ≠ gb292)); have n9_ := Aside0.mk ((by rw [hg]; exact Nat.ne_of_lt (blk_lt (g := gb310) (o := .cells #[.int .i64 t305, .int .i64 t306, .int .u32 t307, .string t308] 45 (0, 0)) (by (with_reducible repeat (first | refine blk_drewN ?_ _ | refine blk_drew ?_ | refine blk_alloc ?_ _)); exact BK310.out)) : gb310 ≠ gb316)); have n10_ := Aside0.mk ((by rw [hg]; exact Nat.ne_of_gt (blk_lt (g := gb310) (o := .cells #[.int .i64 t305, .int .i64 t306, .int .u32 t307, .string t308] 45 (0, 0)) (by (with_reducible repeat (first | refine blk_drewN ?_ _ | refine blk_drew ?_ | refine blk_alloc ?_ _)); exact BK310.out)) : gb316 ≠ gb310)); clear HO302; clear BK292; clear BK310; clear HB; have HO302 := n0_; have BK292 := n1_; have BK310 := n2_; have HB := n3_; have BK316 := n4_; have GW316 := n5_; have GE316 := n6_; have NB292_316 := n7_; have NB316_292 := n8_; have NB310_316 := n9_; have NB316_310 := n10_; clear n0_ n1_ n2_ n3_ n4_ n5_ n6_ n7_ n8_ n9_ n10_; clear hb hbox hg; have hnb43 := NB316_292.out; have hnc43 := NB292_316.out; have hnb44 := NB316_310.out; have hnc44 := NB310_316.out; have hcz45_0 : w42.cell? ⟨gb316, 0, none⟩ = some (.int .i64 0) := (blk_cell BK316.out 0).trans rfl; have hcz45_1 : w42.cell? ⟨gb316, 1, none⟩ = some (.int .i64 0) := (blk_cell BK316.out 1).trans rfl; have hcz45_2 : w42.cell? ⟨gb316, 2, none⟩ = some (.int .u32 0) := (blk_cell BK316.out 2).trans rfl; have hcz45_3 : w42.cell? ⟨gb316, 3, none⟩ = some (.string (⟨#[]⟩ : ByteArray)) := (blk_cell BK316.out 3).trans rfl; have hfz45_0 := blk_frozen BK316.out 0; have hfz45_1 := blk_frozen BK316.out 1; have hfz45_2 := blk_frozen BK316.out 2; have hfz45_3 := blk_frozen BK316.out 3))
                        have n0_ : Aside0 (Kb.Q (Kd.int .u8) 5 ((((w42.setCell ⟨gb316, 0, none⟩ (.int .i64 t311)).setCell ⟨gb316, 1, none⟩ (.int .i64 t312)).setCell ⟨gb316, 2, none⟩ (.int .u32 t313)).setCell ⟨gb316, 3, none⟩ (.string t314)) w.heap.size (fun _ => True) (.slice (some ⟨go24, 0, none⟩) y300.length co33) y304) := ⟨by (with_reducible repeat (first | apply Kb.Q_alloc | apply Kb.Q_drewN | apply Kb.Q_drew)); exact Kb.Q_mono (Kb.Q_far (p := ⟨gb316, 3, none⟩) (Kb.Q_far (p := ⟨gb316, 2, none⟩) (Kb.Q_far (p := ⟨gb316, 1, none⟩) (Kb.Q_far (p := ⟨gb316, 0, none⟩) (Kb.Q_types HO302.out BK316.out (by decide)) (fun _ hk => hk.2) (.int .i64 t311)) (fun _ hk => hk.2) (.int .i64 t312)) (fun _ hk => hk.2) (.int .u32 t313)) (fun _ hk => hk.2) (.string t314)) (fun _ hk => trivial)⟩
                        have n1_ : Aside0 (((((w42.setCell ⟨gb316, 0, none⟩ (.int .i64 t311)).setCell ⟨gb316, 1, none⟩ (.int .i64 t312)).setCell ⟨gb316, 2, none⟩ (.int .u32 t313)).setCell ⟨gb316, 3, none⟩ (.string t314)).heap[gb292]? = some (.cells #[.int .i64 a1_0, .int .i64 a1_1, .int .u32 a1_2, .string a1_3] 45 (0, 0))) := ⟨by (with_reducible repeat (first | refine blk_drewN ?_ _ | refine blk_drew ?_ | refine blk_alloc ?_ _)); refine blk_far ?_ NB292_316.out _; (with_reducible repeat (first | refine blk_drewN ?_ _ | refine blk_drew ?_ | refine blk_alloc ?_ _)); refine blk_far ?_ NB292_316.out _; (with_reducible repeat (first | refine blk_drewN ?_ _ | refine blk_drew ?_ | refine blk_alloc ?_ _)); refine blk_far ?_ NB292_316.out _; (with_reducible repeat (first | refine blk_drewN ?_ _ | refine blk_drew ?_ | refine blk_alloc ?_ _)); refine blk_far ?_ NB292_316.out _; (with_reducible repeat (first | refine blk_drewN ?_ _ | refine blk_drew ?_ | refine blk_alloc ?_ _)); exact BK292.out⟩
                        have n2_ : Aside0 (((((w42.setCell ⟨gb316, 0, none⟩ (.int .i64 t311)).setCell ⟨gb316, 1, none⟩ (.int .i64 t312)).setCell ⟨gb316, 2, none⟩ (.int .u32 t313)).setCell ⟨gb316, 3, none⟩ (.string t314)).heap[gb310]? = some (.cells #[.int .i64 t305, .int .i64 t306, .int .u32 t307, .string t308] 45 (0, 0))) := ⟨by (with_reducible repeat (first | refine blk_drewN ?_ _ | refine blk_drew ?_ | refine blk_alloc ?_ _)); refine blk_far ?_ NB310_316.out _; (with_reducible repeat (first | refine blk_drewN ?_ _ | refine blk_drew ?_ | refine blk_alloc ?_ _)); refine blk_far ?_ NB310_316.out _; (with_reducible repeat (first | refine blk_drewN ?_ _ | refine blk_drew ?_ | refine blk_alloc ?_ _)); refine blk_far ?_ NB310_316.out _; (with_reducible repeat (first | refine blk_drewN ?_ _ | refine blk_drew ?_ | refine blk_alloc ?_ _)); refine blk_far ?_ NB310_316.out _; (with_reducible repeat (first | refine blk_drewN ?_ _ | refine blk_drew ?_ | refine blk_alloc ?_ _)); exact BK310.out⟩
                        have n3_ : Aside0 (((((w42.setCell ⟨gb316, 0, none⟩ (.int .i64 t311)).setCell ⟨gb316, 1, none⟩ (.int .i64 t312)).setCell ⟨gb316, 2, none⟩ (.int .u32 t313)).setCell ⟨gb316, 3, none⟩ (.string t314)).heap[gb316]? = some (.cells #[.int .i64 t311, .int .i64 t312, .int .u32 t313, .string t314] 48 (0, 0))) := ⟨by (with_reducible repeat (first | refine blk_drewN ?_ _ | refine blk_drew ?_ | refine blk_alloc ?_ _)); refine blk_put (cs := #[.int .i64 t311, .int .i64 t312, .int .u32 t313, .string (⟨#[]⟩ : ByteArray)]) ?_ 3 _ rfl; (with_reducible repeat (first | refine blk_drewN ?_ _ | refine blk_drew ?_ | refine blk_alloc ?_ _)); refine blk_put (cs := #[.int .i64 t311, .int .i64 t312, .int .u32 0, .string (⟨#[]⟩ : ByteArray)]) ?_ 2 _ rfl; (with_reducible repeat (first | refine blk_drewN ?_ _ | refine blk_drew ?_ | refine blk_alloc ?_ _)); refine blk_put (cs := #[.int .i64 t311, .int .i64 0, .int .u32 0, .string (⟨#[]⟩ : ByteArray)]) ?_ 1 _ rfl; (with_reducible repeat (first | refine blk_drewN ?_ _ | refine blk_drew ?_ | refine blk_alloc ?_ _)); refine blk_put (cs := #[.int .i64 0, .int .i64 0, .int .u32 0, .string (⟨#[]⟩ : ByteArray)]) ?_ 0 _ rfl; (with_reducible repeat (first | refine blk_drewN ?_ _ | refine blk_drew ?_ | refine blk_alloc ?_ _)); exact BK316.out⟩
                        have n4_ : Aside0 (Below w.heap.size w ((((w42.setCell ⟨gb316, 0, none⟩ (.int .i64 t311)).setCell ⟨gb316, 1, none⟩ (.int .i64 t312)).setCell ⟨gb316, 2, none⟩ (.int .u32 t313)).setCell ⟨gb316, 3, none⟩ (.string t314))) := ⟨by repeat (first | (with_reducible first | exact HB.out | apply below_alloc | apply pw_below_drewN | apply below_drew1 | refine below_set ?_ GE292.out | refine below_set ?_ GE310.out | refine below_set ?_ GE316.out) | exact HB.out)⟩
                        (try clear HO302)
                        (try clear BK292)
                        (try clear BK310)
                        (try clear BK316)
                        (try clear HB)
                        generalize ((((w42.setCell ⟨gb316, 0, none⟩ (.int .i64 t311)).setCell ⟨gb316, 1, none⟩ (.int .i64 t312)).setCell ⟨gb316, 2, none⟩ (.int .u32 t313)).setCell ⟨gb316, 3, none⟩ (.string t314)) = w46 at n0_ n1_ n2_ n3_ n4_ ⊢
                        have HO302 := n0_
                        have BK292 := n1_
                        have BK310 := n2_
                        have BK316 := n3_
                        have HB := n4_
                        clear n0_ n1_ n2_ n3_ n4_
                        have n0_ := Aside0.mk (Kb.Q_drew HO302.out)
                        have n1_ := Aside0.mk (blk_drew BK292.out)
                        have n2_ := Aside0.mk (blk_drew BK310.out)
                        have n3_ := Aside0.mk (blk_drew BK316.out)
                        have n4_ := Aside0.mk (below_drew1 HB.out)
                        clear HO302
                        clear BK292
                        clear BK310
                        clear BK316
                        clear HB
                        have HO302 := n0_
                        have BK292 := n1_
                        have BK310 := n2_
                        have BK316 := n3_
                        have HB := n4_
                        clear n0_ n1_ n2_ n3_ n4_
                        refine start_ (n := 13) (S := fun w' => w'.cell? ⟨gb310, 0, none⟩ = some (.int .i64 t305) ∧ w'.cell? ⟨gb310, 1, none⟩ = some (.int .i64 t306) ∧ w'.cell? ⟨gb310, 2, none⟩ = some (.int .u32 t307) ∧ w'.cell? ⟨gb310, 3, none⟩ = some (.string t308) ∧ w'.cell? ⟨gb316, 0, none⟩ = some (.int .i64 t311) ∧ w'.cell? ⟨gb316, 1, none⟩ = some (.int .i64 t312) ∧ w'.cell? ⟨gb316, 2, none⟩ = some (.int .u32 t313) ∧ w'.cell? ⟨gb316, 3, none⟩ = some (.string t314)) (ds := []) #[false, false, false, false, false, false, false, false, false, false, false, false, false] (by kernel_rfl) rfl rfl ⟨(blk_cell BK310.out 0).trans rfl, (blk_cell BK310.out 1).trans rfl, (blk_cell BK310.out 2).trans rfl, (blk_cell BK310.out 3).trans rfl, (blk_cell BK316.out 0).trans rfl, (blk_cell BK316.out 1).trans rfl, (blk_cell BK316.out 2).trans rfl, (blk_cell BK316.out 3).trans rfl⟩ (fun hHeld => ?_); refine with_tabW weighbridgelaw07_IcmpParses.tab13 weighbridgelaw07_IcmpParses.bits13 (fun HT_ HW_ => ?_)
                        generalize w46.drew = w47 at HO302 BK292 BK310 BK316 HB hHeld ⊢
                        refine pure_ (i := 0) (N := some 67) (v := ?_) (a' := ?_) #[true, false, false, false, false, false, false, false, false, false, false, false, false] rfl rfl (any_of HT_.out (by kernel_rfl)) (fun _ _ _ h => h) (Or.inl ⟨by rfl, ?_⟩) ?_ ?_
                        rotate_left
                        · intro w'
                          go_simp
                          with_reducible rfl
                        rotate_left
                        · simp only [Act.put, List.setIfInBounds_toArray, List.set_cons_zero, List.set_cons_succ, i64_w, i32_w]
                          rfl
                        refine pure_ (i := 1) (N := some 68) (v := ?_) (a' := ?_) #[true, true, false, false, false, false, false, false, false, false, false, false, false] rfl rfl (any_of HT_.out (by kernel_rfl)) (fun _ _ _ h => h) (Or.inl ⟨by rfl, ?_⟩) ?_ ?_
                        rotate_left
                        · intro w'
                          go_simp
                          with_reducible rfl
                        rotate_left
                        · simp only [Act.put, List.setIfInBounds_toArray, List.set_cons_zero, List.set_cons_succ, i64_w, i32_w]
                          rfl
                        refine take_ (i := 2) (N := some 69) (v := ?_) (a' := ?_) #[true, true, true, false, false, false, false, false, false, false, false, false, false] rfl rfl (take_ofW HT_.out HW_.out (by kernel_rfl)) (fun _ _ _ h => h) (Or.inl ⟨by rfl, ?_⟩) hHeld ?_ ?_
                        rotate_left
                        · rintro w' ⟨s0, s1, s2, s3, s4, s5, s6, s7⟩
                          go_simp
                          with_reducible rfl
                        rotate_left
                        · simp only [Act.put, List.setIfInBounds_toArray, List.set_cons_zero, List.set_cons_succ, i64_w, i32_w]
                          rfl
                        refine take_ (i := 4) (N := some 71) (v := ?_) (a' := ?_) #[true, true, true, false, true, false, false, false, false, false, false, false, false] rfl rfl (take_ofW HT_.out HW_.out (by kernel_rfl)) (fun _ _ _ h => h) (Or.inl ⟨by rfl, ?_⟩) hHeld ?_ ?_
                        rotate_left
                        · rintro w' ⟨s0, s1, s2, s3, s4, s5, s6, s7⟩
                          go_simp
                          with_reducible rfl
                        rotate_left
                        · simp only [Act.put, List.setIfInBounds_toArray, List.set_cons_zero, List.set_cons_succ, i64_w, i32_w]
                          rfl
                        refine one_ (i := 3) (N := some 70) #[true, true, true, true, true, false, false, false, false, false, false, false, false] rfl rfl (one_of HT_.out (by kernel_rfl)) (by decide) (fun K hK => ?_)
                        refine goes_ Try.func24 (by kernel_rfl) rfl #[.agg #[.int .i64 t305, .int .i64 t306, .int .u32 t307, .string t308]] (by rfl) rfl rfl (by (try simp only [List.map_toArray, List.map_cons, List.map_nil]); first | done | rfl | (simp only [List.length_drop, List.length_take]; rfl)) ?_
                        with_reducible refine (weighbridgelaw07_ref.calls t305 t306 t307 t308 t317 t318 t319 t320 _ A28.out).mono ?_
                        rintro e w48 ⟨rfl, hb⟩
                        refine ⟨_, rfl, ?_⟩
                        have n0_ := Aside0.mk (Kb.Q_below (by (with_reducible repeat (first | apply Kb.Q_alloc | apply Kb.Q_drewN | apply Kb.Q_drew)); exact HO302.out) hb)
                        have n1_ := Aside0.mk (blk_below (g := gb292) (o := .cells #[.int .i64 a1_0, .int .i64 a1_1, .int .u32 a1_2, .string a1_3] 45 (0, 0)) (by (with_reducible repeat (first | refine blk_drewN ?_ _ | refine blk_drew ?_ | refine blk_alloc ?_ _)); exact BK292.out) hb)
                        have n2_ := Aside0.mk (blk_below (g := gb310) (o := .cells #[.int .i64 t305, .int .i64 t306, .int .u32 t307, .string t308] 45 (0, 0)) (by (with_reducible repeat (first | refine blk_drewN ?_ _ | refine blk_drew ?_ | refine blk_alloc ?_ _)); exact BK310.out) hb)
                        have n3_ := Aside0.mk (blk_below (g := gb316) (o := .cells #[.int .i64 t311, .int .i64 t312, .int .u32 t313, .string t314] 48 (0, 0)) (by (with_reducible repeat (first | refine blk_drewN ?_ _ | refine blk_drew ?_ | refine blk_alloc ?_ _)); exact BK316.out) hb)
                        have n4_ := Aside0.mk (below_step (by repeat (first | (with_reducible first | exact HB.out | apply below_alloc | apply pw_below_drewN | apply below_drew1 | refine below_set ?_ GE292.out | refine below_set ?_ GE310.out | refine below_set ?_ GE316.out) | exact HB.out)) hb)
                        clear HO302
                        clear BK292
                        clear BK310
                        clear BK316
                        clear HB
                        have HO302 := n0_
                        have BK292 := n1_
                        have BK310 := n2_
                        have BK316 := n3_
                        have HB := n4_
                        clear n0_ n1_ n2_ n3_ n4_
                        (try clear hb)
                        (try clear hb2)
                        (try clear hk)
                        (try clear hi)
                        refine hK.out _ _ ⟨(blk_cell BK310.out 0).trans rfl, (blk_cell BK310.out 1).trans rfl, (blk_cell BK310.out 2).trans rfl, (blk_cell BK310.out 3).trans rfl, (blk_cell BK316.out 0).trans rfl, (blk_cell BK316.out 1).trans rfl, (blk_cell BK316.out 2).trans rfl, (blk_cell BK316.out 3).trans rfl⟩ (fun hHeld => ?_)
                        clear hK K
                        refine norm_ (a' := ?_) ?_ ?_
                        rotate_left
                        · show Act.put _ (some 70) _ = _
                          simp only [Act.put, List.setIfInBounds_toArray, List.set_cons_zero, List.set_cons_succ, i64_w, i32_w]
                          rfl
                        refine pure_ (i := 5) (N := some 72) (v := ?_) (a' := ?_) #[true, true, true, true, true, true, false, false, false, false, false, false, false] rfl rfl (any_of HT_.out (by kernel_rfl)) (fun _ _ _ h => h) (Or.inl ⟨by rfl, ?_⟩) ?_ ?_
                        rotate_left
                        · intro w'
                          go_simp
                          with_reducible rfl
                        rotate_left
                        · simp only [Act.put, List.setIfInBounds_toArray, List.set_cons_zero, List.set_cons_succ, i64_w, i32_w]
                          rfl
                        refine pure_ (i := 6) (N := some 73) (v := ?_) (a' := ?_) #[true, true, true, true, true, true, true, false, false, false, false, false, false] rfl rfl (any_of HT_.out (by kernel_rfl)) (fun _ _ _ h => h) (Or.inl ⟨by rfl, ?_⟩) ?_ ?_
                        rotate_left
                        · intro w'
                          go_simp
                          with_reducible rfl
                        rotate_left
                        · simp only [Act.put, List.setIfInBounds_toArray, List.set_cons_zero, List.set_cons_succ, i64_w, i32_w]
                          rfl
                        refine pure_ (i := 7) (N := some 74) (v := ?_) (a' := ?_) #[true, true, true, true, true, true, true, true, false, false, false, false, false] rfl rfl (any_of HT_.out (by kernel_rfl)) (fun _ _ _ h => h) (Or.inl ⟨by rfl, ?_⟩) ?_ ?_
                        rotate_left
                        · intro w'
                          go_simp
                          with_reducible rfl
                        rotate_left
                        · simp only [Act.put, List.setIfInBounds_toArray, List.set_cons_zero, List.set_cons_succ, i64_w, i32_w]
                          rfl
                        refine pure_ (i := 8) (N := some 75) (v := ?_) (a' := ?_) #[true, true, true, true, true, true, true, true, true, false, false, false, false] rfl rfl (any_of HT_.out (by kernel_rfl)) (fun _ _ _ h => h) (Or.inl ⟨by rfl, ?_⟩) ?_ ?_
                        rotate_left
                        · intro w'
                          go_simp
                          with_reducible rfl
                        rotate_left
                        · simp only [Act.put, List.setIfInBounds_toArray, List.set_cons_zero, List.set_cons_succ, i64_w, i32_w]
                          rfl
                        refine pure_ (i := 9) (N := some 76) (v := ?_) (a' := ?_) #[true, true, true, true, true, true, true, true, true, true, false, false, false] rfl rfl (any_of HT_.out (by kernel_rfl)) (fun _ _ _ h => h) (Or.inl ⟨by rfl, ?_⟩) ?_ ?_
                        rotate_left
                        · intro w'
                          go_simp
                          with_reducible rfl
                        rotate_left
                        · simp only [Act.put, List.setIfInBounds_toArray, List.set_cons_zero, List.set_cons_succ, i64_w, i32_w]
                          rfl
                        refine pure_ (i := 10) (N := some 77) (v := ?_) (a' := ?_) #[true, true, true, true, true, true, true, true, true, true, true, false, false] rfl rfl (any_of HT_.out (by kernel_rfl)) (fun _ _ _ h => h) (Or.inl ⟨by rfl, ?_⟩) ?_ ?_
                        rotate_left
                        · intro w'
                          go_simp
                          with_reducible rfl
                        rotate_left
                        · simp only [Act.put, List.setIfInBounds_toArray, List.set_cons_zero, List.set_cons_succ, i64_w, i32_w]
                          rfl
                        refine pure_ (i := 11) (N := some 78) (v := ?_) (a' := ?_) #[true, true, true, true, true, true, true, true, true, true, true, true, false] rfl rfl (any_of HT_.out (by kernel_rfl)) (fun _ _ _ h => h) (Or.inl ⟨by rfl, ?_⟩) ?_ ?_
                        rotate_left
                        · intro w'
                          go_simp
                          with_reducible rfl
                        rotate_left
                        · simp only [Act.put, List.setIfInBounds_toArray, List.set_cons_zero, List.set_cons_succ, i64_w, i32_w]
                          rfl
                        refine pure_ (i := 12) (N := some 10) (v := ?_) (a' := ?_) #[true, true, true, true, true, true, true, true, true, true, true, true, true] rfl rfl (any_of HT_.out (by kernel_rfl)) (fun _ _ _ h => h) (Or.inl ⟨by rfl, ?_⟩) ?_ ?_
                        rotate_left
                        · intro w'
                          go_simp
                          with_reducible rfl
                        rotate_left
                        · simp only [Act.put, List.setIfInBounds_toArray, List.set_cons_zero, List.set_cons_succ, i64_w, i32_w]
                          rfl
                        refine done_ (done_of HT_.out (by kernel_rfl)) ?_
                        try go_wp2
                        go_ret
                        exact ⟨by first | rfl | (simp [errW_none, errW_some] <;> rfl) | (simp only [← hji21]; first | rfl | (simp [errW_none, errW_some] <;> rfl)) | (simp [*, errW_none, errW_some] <;> rfl), by repeat (first | (with_reducible first | exact HB.out | apply below_alloc | apply pw_below_drewN | apply below_drew1 | refine below_set ?_ GE292.out | refine below_set ?_ GE310.out | refine below_set ?_ GE316.out) | exact HB.out)⟩
                      · rw [if_neg c29] at H
                        have c29b0 : (t317 == t311 && (t318 == t312 && (t319 == t313 && (t320.toList == t314.toList)))) = false := by simpa using c29
                        (try (have c29b1 : decide (t317 = t311 && (t318 == t312 && (t319 == t313 && (t320.toList == t314.toList)))) = false := by simpa using c29))
                        (try (have c29b2 : (t317 == t311 && (t318 == t312 && (t319 == t313 && (t320.toList == t314.toList)))) = false := by simpa using c29))
                        (try (have c29b3 : ¬ (t317 = t311 && (t318 == t312 && (t319 == t313 && (t320.toList == t314.toList)))) := by simpa using c29))
                        clear c29
                        exact absurd ((Option.some.inj H).trans hr_) (by decide)
                  · rw [if_neg c23] at H
                    exact absurd H (by simp)
                · rw [if_neg c22] at H
                  exact absurd H (by simp)
            · rw [if_neg c19] at H
              have c19b0 : decide (a3 < 0) = false := decide_eq_false c19
              clear c19
              by_cases c49 : (y300.length : Int) = 0
              · rw [if_pos c49] at H
                exact absurd H (by simp)
              · rw [if_neg c49] at H
                have c49b0 : ((y300.length : Int) == 0) = false := beq_eq_false_iff_ne.mpr c49
                have c49b1 : ((y300.length : Int) != 0) = true := bne_iff_ne.mpr c49
                have c49b2 : ¬ (y300 = []) := fun h_ => c49 (by rw [h_]; rfl)
                obtain ⟨ji50, hji50⟩ : ∃ j_ : Int, (Int.tmod a3 (y300.length : Int)) = j_ := ⟨_, rfl⟩
                replace H : (if 0 ≤ (ji50) then (if (ji50) < (y300.length : Int) then ((some (y300.set ((ji50) : Int).toNat (Go.bits .xor .u8 (rd y300 (ji50)) a4) : List Int)).bind fun y322 => ((icmp_Parse.f (strOfNums y322)).bind fun bt323 => ((weighbridgeref07_Parse.f (strOfNums y322)).bind fun bt329 => (if true = true then ((weighbridgelaw07_ref.f bt323.1 bt323.2.1 bt323.2.2.1 bt323.2.2.2.1).bind fun bt335 => (if (bt335.1 == bt329.1 && (bt335.2.1 == bt329.2.1 && (bt335.2.2.1 == bt329.2.2.1 && (bt335.2.2.2.toList == bt329.2.2.2.1.toList)))) = true then (some (bt323.2.2.2.2 == bt329.2.2.2.2)) else (some false))) else (some false))))) else (none)) else (none)) = some r := by first | (rw [hji50] at H; exact H) | (simp only [hji50] at H ⊢; exact H)
                by_cases c51 : 0 ≤ (ji50)
                · rw [if_pos c51] at H
                  have c51b0 : decide (0 ≤ (ji50)) = true := decide_eq_true c51
                  clear c51
                  by_cases c52 : (ji50) < (y300.length : Int)
                  · rw [if_pos c52] at H
                    have c52b0 : decide ((ji50) < (y300.length : Int)) = true := decide_eq_true c52
                    clear c52
                    obtain ⟨y322, hy322⟩ : ∃ y_ : List Int, y_ = (y300.set ((ji50) : Int).toNat (Go.bits .xor .u8 (rd y300 (ji50)) a4)) := ⟨_, rfl⟩
                    replace H : ((icmp_Parse.f (strOfNums y322)).bind fun bt323 => ((weighbridgeref07_Parse.f (strOfNums y322)).bind fun bt329 => (if true = true then ((weighbridgelaw07_ref.f bt323.1 bt323.2.1 bt323.2.2.1 bt323.2.2.2.1).bind fun bt335 => (if (bt335.1 == bt329.1 && (bt335.2.1 == bt329.2.1 && (bt335.2.2.1 == bt329.2.2.1 && (bt335.2.2.2.toList == bt329.2.2.2.1.toList)))) = true then (some (bt323.2.2.2.2 == bt329.2.2.2.2)) else (some false))) else (some false)))) = some r := by first | (rw [hy322]; with_reducible exact H) | (have H2_ := (Option.bind_some _ _).symm.trans H; rw [hy322]; with_reducible exact H2_) | (have H2_ := (Option.bind_some _ _).symm.trans H; with_reducible exact H2_) | with_reducible exact H | (rw [hy322]; exact H) | exact H
                    have Ny322 := Aside0.mk hy322
                    clear hy322
                    replace H := Option.bind_eq_some_iff.mp H
                    obtain ⟨⟨t323, t324, t325, t326, t327⟩, A540, H⟩ := H
                    replace H : ((weighbridgeref07_Parse.f (strOfNums y322)).bind fun bt329 => (if true = true then ((weighbridgelaw07_ref.f t323 t324 t325 t326).bind fun bt335 => (if (bt335.1 == bt329.1 && (bt335.2.1 == bt329.2.1 && (bt335.2.2.1 == bt329.2.2.1 && (bt335.2.2.2.toList == bt329.2.2.2.1.toList)))) = true then (some (t327 == bt329.2.2.2.2)) else (some false))) else (some false))) = some r := H
                    have A54 := Aside0.mk A540
                    clear A540
                    replace H := Option.bind_eq_some_iff.mp H
                    obtain ⟨⟨t329, t330, t331, t332, t333⟩, A550, H⟩ := H
                    replace H : (if true = true then ((weighbridgelaw07_ref.f t323 t324 t325 t326).bind fun bt335 => (if (bt335.1 == t329 && (bt335.2.1 == t330 && (bt335.2.2.1 == t331 && (bt335.2.2.2.toList == t332.toList)))) = true then (some (t327 == t333)) else (some false))) else (some false)) = some r := H
                    have A55 := Aside0.mk A550
                    clear A550
                    have c56 : true = true := rfl
                    · clear c56
                      have H1 : ((weighbridgelaw07_ref.f t323 t324 t325 t326).bind fun bt335 => (if (bt335.1 == t329 && (bt335.2.1 == t330 && (bt335.2.2.1 == t331 && (bt335.2.2.2.toList == t332.toList)))) = true then (some (t327 == t333)) else (some false))) = some r := by rw [if_pos rfl] at H; exact H
                      clear H
                      have H := H1
                      clear H1
                      replace H := Option.bind_eq_some_iff.mp H
                      obtain ⟨⟨t335, t336, t337, t338⟩, A570, H⟩ := H
                      replace H : (if (t335 == t329 && (t336 == t330 && (t337 == t331 && (t338.toList == t332.toList)))) = true then (some (t327 == t333)) else (some false)) = some r := H
                      have A57 := Aside0.mk A570
                      clear A570
                      by_cases c58 : (t335 == t329 && (t336 == t330 && (t337 == t331 && (t338.toList == t332.toList)))) = true
                      · rw [if_pos c58] at H
                        have c58b0 : (t335 == t329 && (t336 == t330 && (t337 == t331 && (t338.toList == t332.toList)))) = true := c58
                        (try (have c58b1 : decide (t335 = t329 && (t336 == t330 && (t337 == t331 && (t338.toList == t332.toList)))) = true := by simpa using c58))
                        (try (have c58b2 : (t335 == t329 && (t336 == t330 && (t337 == t331 && (t338.toList == t332.toList)))) = true := by simpa using c58))
                        clear c58
                        obtain rfl := Option.some.inj H
                        try go_wp2_with (first | ((with_reducible refine gate_dst (N := 34) rfl ?_); refine Kb.Q_conv (Kd.int .u8) 5 rfl (N := 34) rfl 9 38 _ rfl t298 rfl Try.underlying9 Try.underlying38 Try.underlying5 (ok := fun _ => True) trivial (of_decide_eq_true (by first | (with_reducible assumption) | assumption)) ?_; intro v301 w59 ho60 hb hg_ hnew_; clear hg_ hnew_; (first | rw [← Ny300.out] at ho60 | (simp only [Int.reduceToNat] at ho60; rw [← Ny300.out] at ho60)); have n0_ := Aside0.mk (Kb.Q_lower ho60 (below_size (by repeat (first | (with_reducible first | exact HB.out | apply below_alloc | apply pw_below_drewN | apply below_drew1 | refine below_set ?_ GE292.out) | exact HB.out)))); have n1_ := Aside0.mk (blk_below (g := gb292) (o := .cells #[.int .i64 a1_0, .int .i64 a1_1, .int .u32 a1_2, .string a1_3] 45 (0, 0)) (by (with_reducible repeat (first | refine blk_drewN ?_ _ | refine blk_drew ?_ | refine blk_alloc ?_ _)); exact BK292.out) hb); have n2_ := Aside0.mk (below_step (by repeat (first | (with_reducible first | exact HB.out | apply below_alloc | apply pw_below_drewN | apply below_drew1 | refine below_set ?_ GE292.out) | exact HB.out)) hb); clear BK292; clear HB; have HO302 := n0_; have BK292 := n1_; have HB := n2_; clear n0_ n1_ n2_; clear hb ho60))
                        have n0_ := Aside0.mk (Kb.Q_drew HO302.out)
                        have n1_ := Aside0.mk (blk_drew BK292.out)
                        have n2_ := Aside0.mk (below_drew1 HB.out)
                        clear HO302
                        clear BK292
                        clear HB
                        have HO302 := n0_
                        have BK292 := n1_
                        have HB := n2_
                        clear n0_ n1_ n2_
                        obtain ⟨Ao62, co62, eo62, _⟩ := Kb.Q_slice HO302.out
                        (first | subst eo62 | (injection eo62 with f1_ f2_ f3_; have f4_ := f1_.symm; have f5_ := f3_.symm; clear f1_ f2_ f3_; subst f4_; subst f5_))
                        have p321 : 0 ≤ ((ji50) : Int) := of_decide_eq_true (by first | (with_reducible assumption) | assumption)
                        have q321 : (ji50) < (y300.length : Int) := of_decide_eq_true (by first | (with_reducible assumption) | assumption)
                        obtain ⟨ad321, e321, hx321_0⟩ := Kd.at_int (Kb.Q_reads' HO302.out).2.2 (ji50) p321 q321
                        cases e321
                        replace p321 := eq_true p321
                        replace q321 := eq_true q321
                        have p53 : 0 ≤ ((ji50) : Int) := of_decide_eq_true (by first | (with_reducible assumption) | assumption)
                        have q53 : ((ji50) : Int) < ((y300.length : Int) : Int) := of_decide_eq_true (by first | (with_reducible assumption) | assumption)
                        obtain ⟨go53, co53, eo53, gb53, gl53, cl53, HG53⟩ := Kb.Q_form HO302.out (by omega)
                        (first | cases eo53 | (injection eo53 with ea_ en_ ec_; (first | subst ea_ | (injection ea_ with ea_; subst ea_)); subst ec_; clear en_))
                        have GB53 := Aside0.mk gb53
                        have GG53 := Aside0.mk HG53
                        clear gb53 gl53 HG53
                        (first | simp only [add_at, Nat.zero_add] at hx321_0 | skip)
                        obtain ⟨hx53_0, hf53_0⟩ := Kb.Q_cell 0 HO302.out ((ji50) : Int) p53 q53
                        replace p53 := eq_true p53
                        replace q53 := eq_true q53
                        have HP63 := (Kb.Q_putg HO302.out ((ji50) : Int) (of_decide_eq_true (by first | (with_reducible assumption) | assumption)) (by have h_ : ((ji50) : Int) < ((y300.length : Int) : Int) := of_decide_eq_true (by first | (with_reducible assumption) | assumption); first | exact h_ | (have e_ := (Kb.Q_reads' HO302.out).1; omega) | simpa using h_) (Go.bits .xor .u8 (rd y300 (ji50)) a4)).1
                        rw [← Ny322.out] at HP63
                        have HQ63 := Aside0.mk HP63
                        clear HP63
                        refine start_ (n := 16) (S := fun w' => w'.cell? ⟨go53, ((ji50)).toNat, none⟩ = some (.int .u8 (rd y300 (ji50)))) (ds := [15]) #[false, false, false, false, false, false, false, false, false, false, false, false, false, false, false, false] (by kernel_rfl) rfl rfl (hx321_0) (fun hHeld => ?_); refine with_tabW weighbridgelaw07_IcmpParses.tab9 weighbridgelaw07_IcmpParses.bits9 (fun HT_ HW_ => ?_)
                        generalize w59.drew = w61 at HO302 BK292 HB GG53 HQ63 hf53_0 hx321_0 hx53_0 hHeld ⊢
                        refine pure_ (i := 0) (N := some 40) (v := ?_) (a' := ?_) #[true, false, false, false, false, false, false, false, false, false, false, false, false, false, false, false] rfl rfl (any_of HT_.out (by kernel_rfl)) (fun _ _ _ h => h) (Or.inl ⟨by rfl, ?_⟩) ?_ ?_
                        rotate_left
                        · intro w'
                          go_simp
                          with_reducible rfl
                        rotate_left
                        · simp only [Act.put, List.setIfInBounds_toArray, List.set_cons_zero, List.set_cons_succ, i64_w, i32_w]
                          rfl
                        refine pure_ (i := 1) (N := some 41) (v := ?_) (a' := ?_) #[true, true, false, false, false, false, false, false, false, false, false, false, false, false, false, false] rfl rfl (any_of HT_.out (by kernel_rfl)) (fun _ _ _ h => h) (Or.inl ⟨by rfl, ?_⟩) ?_ ?_
                        rotate_left
                        · intro w'
                          go_simp
                          with_reducible rfl
                        rotate_left
                        · simp only [Act.put, List.setIfInBounds_toArray, List.set_cons_zero, List.set_cons_succ, i64_w, i32_w]
                          rfl
                        refine pure_ (i := 2) (N := some 42) (v := ?_) (a' := ?_) #[true, true, true, false, false, false, false, false, false, false, false, false, false, false, false, false] rfl rfl (any_of HT_.out (by kernel_rfl)) (fun _ _ _ h => h) (Or.inl ⟨by rfl, ?_⟩) ?_ ?_
                        rotate_left
                        · intro w'
                          go_simp
                          with_reducible rfl
                        rotate_left
                        · simp only [Act.put, List.setIfInBounds_toArray, List.set_cons_zero, List.set_cons_succ, i64_w, i32_w]
                          rfl
                        refine pure_ (i := 3) (N := some 43) (v := ?_) (a' := ?_) #[true, true, true, true, false, false, false, false, false, false, false, false, false, false, false, false] rfl rfl (any_of HT_.out (by kernel_rfl)) (fun _ _ _ h => h) (Or.inl ⟨by rfl, ?_⟩) ?_ ?_
                        rotate_left
                        · intro w'
                          go_simp
                          with_reducible rfl
                        rotate_left
                        · simp only [Act.put, List.setIfInBounds_toArray, List.set_cons_zero, List.set_cons_succ, i64_w, i32_w]
                          rfl
                        refine pure_ (i := 4) (N := some 44) (v := ?_) (a' := ?_) #[true, true, true, true, true, false, false, false, false, false, false, false, false, false, false, false] rfl rfl (any_of HT_.out (by kernel_rfl)) (fun _ _ _ h => h) (Or.inl ⟨by rfl, ?_⟩) ?_ ?_
                        rotate_left
                        · intro w'
                          go_simp
                          with_reducible rfl
                        rotate_left
                        · simp only [Act.put, List.setIfInBounds_toArray, List.set_cons_zero, List.set_cons_succ, i64_w, i32_w]
                          rfl
                        refine pure_ (i := 5) (N := some 45) (v := ?_) (a' := ?_) #[true, true, true, true, true, true, false, false, false, false, false, false, false, false, false, false] rfl rfl (any_of HT_.out (by kernel_rfl)) (fun _ _ _ h => h) (Or.inl ⟨by rfl, ?_⟩) ?_ ?_
                        rotate_left
                        · intro w'
                          go_simp
                          with_reducible rfl
                        rotate_left
                        · simp only [Act.put, List.setIfInBounds_toArray, List.set_cons_zero, List.set_cons_succ, i64_w, i32_w]
                          rfl
                        refine pure_ (i := 6) (N := some 46) (v := ?_) (a' := ?_) #[true, true, true, true, true, true, true, false, false, false, false, false, false, false, false, false] rfl rfl (any_of HT_.out (by kernel_rfl)) (fun _ _ _ h => h) (Or.inl ⟨by rfl, ?_⟩) ?_ ?_
                        rotate_left
                        · intro w'
                          go_simp
                          with_reducible rfl
                        rotate_left
                        · simp only [Act.put, List.setIfInBounds_toArray, List.set_cons_zero, List.set_cons_succ, i64_w, i32_w]
                          rfl
                        refine pure_ (i := 7) (N := some 47) (v := ?_) (a' := ?_) #[true, true, true, true, true, true, true, true, false, false, false, false, false, false, false, false] rfl rfl (any_of HT_.out (by kernel_rfl)) (fun _ _ _ h => h) (Or.inl ⟨by rfl, ?_⟩) ?_ ?_
                        rotate_left
                        · intro w'
                          go_simp
                          with_reducible rfl
                        rotate_left
                        · simp only [Act.put, List.setIfInBounds_toArray, List.set_cons_zero, List.set_cons_succ, i64_w, i32_w]
                          rfl
                        refine pure_ (i := 8) (N := some 48) (v := ?_) (a' := ?_) #[true, true, true, true, true, true, true, true, true, false, false, false, false, false, false, false] rfl rfl (any_of HT_.out (by kernel_rfl)) (fun _ _ _ h => h) (Or.inl ⟨by rfl, ?_⟩) ?_ ?_
                        rotate_left
                        · intro w'
                          go_simp
                          with_reducible rfl
                        rotate_left
                        · simp only [Act.put, List.setIfInBounds_toArray, List.set_cons_zero, List.set_cons_succ, i64_w, i32_w]
                          rfl
                        refine pure_ (i := 9) (N := some 49) (v := ?_) (a' := ?_) #[true, true, true, true, true, true, true, true, true, true, false, false, false, false, false, false] rfl rfl (any_of HT_.out (by kernel_rfl)) (fun _ _ _ h => h) (Or.inl ⟨by rfl, ?_⟩) ?_ ?_
                        rotate_left
                        · intro w'
                          go_simp
                          with_reducible rfl
                        rotate_left
                        · simp only [Act.put, List.setIfInBounds_toArray, List.set_cons_zero, List.set_cons_succ, i64_w, i32_w]
                          rfl
                        refine pure_ (i := 10) (N := some 50) (v := ?_) (a' := ?_) #[true, true, true, true, true, true, true, true, true, true, true, false, false, false, false, false] rfl rfl (any_of HT_.out (by kernel_rfl)) (fun _ _ _ h => h) (Or.inl ⟨by rfl, ?_⟩) ?_ ?_
                        rotate_left
                        · intro w'
                          go_simp
                          with_reducible rfl
                        rotate_left
                        · simp only [Act.put, List.setIfInBounds_toArray, List.set_cons_zero, List.set_cons_succ, i64_w, i32_w]
                          rfl
                        refine pure_ (i := 12) (N := some 52) (v := ?_) (a' := ?_) #[true, true, true, true, true, true, true, true, true, true, true, false, true, false, false, false] rfl rfl (any_of HT_.out (by kernel_rfl)) (fun _ _ _ h => h) (Or.inl ⟨by rfl, ?_⟩) ?_ ?_
                        rotate_left
                        · intro w'
                          go_simp
                          with_reducible rfl
                        rotate_left
                        · simp only [Act.put, List.setIfInBounds_toArray, List.set_cons_zero, List.set_cons_succ, i64_w, i32_w]
                          rfl
                        refine take_ (i := 11) (N := some 51) (v := ?_) (a' := ?_) #[true, true, true, true, true, true, true, true, true, true, true, true, true, false, false, false] rfl rfl (take_ofW HT_.out HW_.out (by kernel_rfl)) (fun _ _ _ h => h) (Or.inl ⟨by rfl, ?_⟩) hHeld ?_ ?_
                        rotate_left
                        · intro w' s0
                          go_simp
                          with_reducible rfl
                        rotate_left
                        · simp only [Act.put, List.setIfInBounds_toArray, List.set_cons_zero, List.set_cons_succ, i64_w, i32_w]
                          rfl
                        refine pure_ (i := 13) (N := some 53) (v := ?_) (a' := ?_) #[true, true, true, true, true, true, true, true, true, true, true, true, true, true, false, false] rfl rfl (any_of HT_.out (by kernel_rfl)) (fun _ _ _ h => h) (Or.inl ⟨by rfl, ?_⟩) ?_ ?_
                        rotate_left
                        · intro w'
                          go_simp
                          with_reducible rfl
                        rotate_left
                        · simp only [Act.put, List.setIfInBounds_toArray, List.set_cons_zero, List.set_cons_succ, i64_w, i32_w]
                          rfl
                        refine pure_ (i := 14) (N := some 54) (v := ?_) (a' := ?_) #[true, true, true, true, true, true, true, true, true, true, true, true, true, true, true, false] rfl rfl (any_of HT_.out (by kernel_rfl)) (fun _ _ _ h => h) (Or.inl ⟨by rfl, ?_⟩) ?_ ?_
                        rotate_left
                        · intro w'
                          go_simp
                          with_reducible rfl
                        rotate_left
                        · simp only [Act.put, List.setIfInBounds_toArray, List.set_cons_zero, List.set_cons_succ, i64_w, i32_w]
                          rfl
                        refine last_ (i := 15) (N := none) #[true, true, true, true, true, true, true, true, true, true, true, true, true, true, true, true] rfl rfl (one_of HT_.out (by kernel_rfl)) (by decide) (fun K hK => ?_)
                        refine skip_ (w1 := ?_) (by rfl) rfl ?_ ?_
                        rotate_left
                        · go_simp
                          rfl
                        refine hK.out _ _ ?_
                        clear hK K
                        refine done_ (done_of HT_.out (by kernel_rfl)) ?_
                        have n0_ : Aside0 (Kb.Q (Kd.int .u8) 5 (w61.setCell ⟨go53, ((ji50) : Int).toNat, none⟩ (.int .u8 (Go.bits .xor .u8 (rd y300 (ji50)) a4))) w.heap.size (fun _ => True) (.slice (some ⟨go53, 0, none⟩) y300.length co62) y322) := ⟨by (with_reducible repeat (first | apply Kb.Q_alloc | apply Kb.Q_drewN | apply Kb.Q_drew)); exact HQ63.out⟩
                        have n1_ : Aside0 ((w61.setCell ⟨go53, ((ji50) : Int).toNat, none⟩ (.int .u8 (Go.bits .xor .u8 (rd y300 (ji50)) a4))).heap[gb292]? = some (.cells #[.int .i64 a1_0, .int .i64 a1_1, .int .u32 a1_2, .string a1_3] 45 (0, 0))) := ⟨by (with_reducible repeat (first | refine blk_drewN ?_ _ | refine blk_drew ?_ | refine blk_alloc ?_ _)); refine blk_far ?_ (by have h_ := Kb.Q_ne HO302.out BK292.out (by decide); intro e_; exact h_ (by rw [e_]; rfl)) _; (with_reducible repeat (first | refine blk_drewN ?_ _ | refine blk_drew ?_ | refine blk_alloc ?_ _)); exact BK292.out⟩
                        have n2_ : Aside0 (Below w.heap.size w (w61.setCell ⟨go53, ((ji50) : Int).toNat, none⟩ (.int .u8 (Go.bits .xor .u8 (rd y300 (ji50)) a4)))) := ⟨by repeat (first | (with_reducible first | exact HB.out | apply below_alloc | apply pw_below_drewN | apply below_drew1 | refine below_set ?_ GB53.out | refine below_set ?_ GE292.out) | exact HB.out)⟩
                        (try clear HO302)
                        (try clear BK292)
                        (try clear HB)
                        generalize (w61.setCell ⟨go53, ((ji50) : Int).toNat, none⟩ (.int .u8 (Go.bits .xor .u8 (rd y300 (ji50)) a4))) = w64 at n0_ n1_ n2_ ⊢
                        have HO302 := n0_
                        have BK292 := n1_
                        have HB := n2_
                        clear n0_ n1_ n2_
                        have hcv65 := Kb.Q_string (P := Try.prog) Try.underlying38 Try.underlying5 Try.underlying9 (HO302.out)
                        try go_wp2_with (first | ((with_reducible refine gate_callee (f := 29) rfl ?_); refine goesL_ (some 59) rfl rfl Try.func29 (by kernel_rfl) rfl #[.string (strOfNums y322)] rfl (by (try simp only [List.map_toArray, List.map_cons, List.map_nil]); first | done | rfl | (simp only [List.length_drop, List.length_take]; rfl)) ?_; (with_reducible refine (icmp_Parse.calls (strOfNums y322) t323 t324 t325 t326 t327 _ A54.out).mono ?_); rintro e w66 ⟨rfl, hb⟩; (try clear A54); refine ⟨_, rfl, ?_⟩; have n0_ := Aside0.mk (Kb.Q_below (by (with_reducible repeat (first | apply Kb.Q_alloc | apply Kb.Q_drewN | apply Kb.Q_drew)); exact HO302.out) hb); have n1_ := Aside0.mk (blk_below (g := gb292) (o := .cells #[.int .i64 a1_0, .int .i64 a1_1, .int .u32 a1_2, .string a1_3] 45 (0, 0)) (by (with_reducible repeat (first | refine blk_drewN ?_ _ | refine blk_drew ?_ | refine blk_alloc ?_ _)); exact BK292.out) hb); have n2_ := Aside0.mk (below_step (by repeat (first | (with_reducible first | exact HB.out | apply below_alloc | apply pw_below_drewN | apply below_drew1 | refine below_set ?_ GE292.out) | exact HB.out)) hb); clear HO302; clear BK292; clear HB; have HO302 := n0_; have BK292 := n1_; have HB := n2_; clear n0_ n1_ n2_; (try clear hb); (try clear hb2); (try clear hk); (try clear hi)) | ((with_reducible refine gate_dst (N := 15) rfl ?_); refine box_event ?hg (N := 15) ?hd (cs := #[.int .i64 0, .int .i64 0, .int .u32 0, .string (⟨#[]⟩ : ByteArray)]) (t := 45) ?hr ?_; (case hd => rfl); (case hg => rfl); (case hr => first | (go_simp; done) | (go_simp; rfl)); intro gb328 hg w67 hbox hb; have n0_ := Aside0.mk (Kb.Q_below (by (with_reducible repeat (first | apply Kb.Q_alloc | apply Kb.Q_drewN | apply Kb.Q_drew)); exact HO302.out) hb); have n1_ := Aside0.mk (blk_below (g := gb292) (o := .cells #[.int .i64 a1_0, .int .i64 a1_1, .int .u32 a1_2, .string a1_3] 45 (0, 0)) (by (with_reducible repeat (first | refine blk_drewN ?_ _ | refine blk_drew ?_ | refine blk_alloc ?_ _)); exact BK292.out) hb); have n2_ := Aside0.mk (below_step (by repeat (first | (with_reducible first | exact HB.out | apply below_alloc | apply pw_below_drewN | apply below_drew1 | refine below_set ?_ GE292.out) | exact HB.out)) hb); have n3_ := Aside0.mk (hbox); have n4_ := Aside0.mk ((by rw [hg]; exact (below_size (by repeat (first | (with_reducible first | exact HB.out | apply below_alloc | apply pw_below_drewN | apply below_drew1 | refine below_set ?_ GE292.out) | exact HB.out))) : w.heap.size ≤ gb328)); have n5_ := Aside0.mk ((by rw [hg]; exact (below_size (by repeat (first | (with_reducible first | exact HB.out | apply below_alloc | apply pw_below_drewN | apply below_drew1 | refine below_set ?_ GE292.out) | exact HB.out))) : w.heap.size ≤ gb328)); have n6_ := Aside0.mk ((by rw [hg]; exact Nat.ne_of_lt (blk_lt (g := gb292) (o := .cells #[.int .i64 a1_0, .int .i64 a1_1, .int .u32 a1_2, .string a1_3] 45 (0, 0)) (by (with_reducible repeat (first | refine blk_drewN ?_ _ | refine blk_drew ?_ | refine blk_alloc ?_ _)); exact BK292.out)) : gb292 ≠ gb328)); have n7_ := Aside0.mk ((by rw [hg]; exact Nat.ne_of_gt (blk_lt (g := gb292) (o := .cells #[.int .i64 a1_0, .int .i64 a1_1, .int .u32 a1_2, .string a1_3] 45 (0, 0)) (by (with_reducible repeat (first | refine blk_drewN ?_ _ | refine blk_drew ?_ | refine blk_alloc ?_ _)); exact BK292.out)) : gb328 ≠ gb292)); clear HO302; clear BK292; clear HB; have HO302 := n0_; have BK292 := n1_; have HB := n2_; have BK328 := n3_; have GW328 := n4_; have GE328 := n5_; have NB292_328 := n6_; have NB328_292 := n7_; clear n0_ n1_ n2_ n3_ n4_ n5_ n6_ n7_; clear hb hbox hg; have hnb68 := NB328_292.out; have hnc68 := NB292_328.out; have hcz69_0 : w67.cell? ⟨gb328, 0, none⟩ = some (.int .i64 0) := (blk_cell BK328.out 0).trans rfl; have hcz69_1 : w67.cell? ⟨gb328, 1, none⟩ = some (.int .i64 0) := (blk_cell BK328.out 1).trans rfl; have hcz69_2 : w67.cell? ⟨gb328, 2, none⟩ = some (.int .u32 0) := (blk_cell BK328.out 2).trans rfl; have hcz69_3 : w67.cell? ⟨gb328, 3, none⟩ = some (.string (⟨#[]⟩ : ByteArray)) := (blk_cell BK328.out 3).trans rfl; have hfz69_0 := blk_frozen BK328.out 0; have hfz69_1 := blk_frozen BK328.out 1; have hfz69_2 := blk_frozen BK328.out 2; have hfz69_3 := blk_frozen BK328.out 3) | ((with_reducible refine gate_callee (f := 30) rfl ?_); refine goesL_ (some 64) rfl rfl Try.func30 (by kernel_rfl) rfl #[.string (strOfNums y322)] rfl (by (try simp only [List.map_toArray, List.map_cons, List.map_nil]); first | done | rfl | (simp only [List.length_drop, List.length_take]; rfl)) ?_; (with_reducible refine (weighbridgeref07_Parse.calls (strOfNums y322) t329 t330 t331 t332 t333 _ A55.out).mono ?_); rintro e w70 ⟨rfl, hb⟩; (try clear A55); refine ⟨_, rfl, ?_⟩; have n0_ := Aside0.mk (Kb.Q_below (by (with_reducible repeat (first | apply Kb.Q_alloc | apply Kb.Q_drewN | apply Kb.Q_drew)); exact (Kb.Q_mono (Kb.Q_far (p := ⟨gb328, 3, none⟩) (Kb.Q_far (p := ⟨gb328, 2, none⟩) (Kb.Q_far (p := ⟨gb328, 1, none⟩) (Kb.Q_far (p := ⟨gb328, 0, none⟩) (Kb.Q_types HO302.out BK328.out (by decide)) (fun _ hk => hk.2) (.int .i64 t323)) (fun _ hk => hk.2) (.int .i64 t324)) (fun _ hk => hk.2) (.int .u32 t325)) (fun _ hk => hk.2) (.string t326)) (fun _ h_ => h_.1))) hb); have n1_ := Aside0.mk (blk_below (g := gb292) (o := .cells #[.int .i64 a1_0, .int .i64 a1_1, .int .u32 a1_2, .string a1_3] 45 (0, 0)) (by (with_reducible repeat (first | refine blk_drewN ?_ _ | refine blk_drew ?_ | refine blk_alloc ?_ _)); refine blk_far ?_ NB292_328.out _; (with_reducible repeat (first | refine blk_drewN ?_ _ | refine blk_drew ?_ | refine blk_alloc ?_ _)); refine blk_far ?_ NB292_328.out _; (with_reducible repeat (first | refine blk_drewN ?_ _ | refine blk_drew ?_ | refine blk_alloc ?_ _)); refine blk_far ?_ NB292_328.out _; (with_reducible repeat (first | refine blk_drewN ?_ _ | refine blk_drew ?_ | refine blk_alloc ?_ _)); refine blk_far ?_ NB292_328.out _; (with_reducible repeat (first | refine blk_drewN ?_ _ | refine blk_drew ?_ | refine blk_alloc ?_ _)); exact BK292.out) hb); have n2_ := Aside0.mk (blk_below (g := gb328) (o := .cells #[.int .i64 t323, .int .i64 t324, .int .u32 t325, .string t326] 45 (0, 0)) (by (with_reducible repeat (first | refine blk_drewN ?_ _ | refine blk_drew ?_ | refine blk_alloc ?_ _)); refine blk_put (cs := #[.int .i64 t323, .int .i64 t324, .int .u32 t325, .string (⟨#[]⟩ : ByteArray)]) ?_ 3 _ rfl; (with_reducible repeat (first | refine blk_drewN ?_ _ | refine blk_drew ?_ | refine blk_alloc ?_ _)); refine blk_put (cs := #[.int .i64 t323, .int .i64 t324, .int .u32 0, .string (⟨#[]⟩ : ByteArray)]) ?_ 2 _ rfl; (with_reducible repeat (first | refine blk_drewN ?_ _ | refine blk_drew ?_ | refine blk_alloc ?_ _)); refine blk_put (cs := #[.int .i64 t323, .int .i64 0, .int .u32 0, .string (⟨#[]⟩ : ByteArray)]) ?_ 1 _ rfl; (with_reducible repeat (first | refine blk_drewN ?_ _ | refine blk_drew ?_ | refine blk_alloc ?_ _)); refine blk_put (cs := #[.int .i64 0, .int .i64 0, .int .u32 0, .string (⟨#[]⟩ : ByteArray)]) ?_ 0 _ rfl; (with_reducible repeat (first | refine blk_drewN ?_ _ | refine blk_drew ?_ | refine blk_alloc ?_ _)); exact BK328.out) hb); have n3_ := Aside0.mk (below_step (by repeat (first | (with_reducible first | exact HB.out | apply below_alloc | apply pw_below_drewN | apply below_drew1 | refine below_set ?_ GE292.out | refine below_set ?_ GE328.out) | exact HB.out)) hb); clear HO302; clear BK292; clear BK328; clear HB; have HO302 := n0_; have BK292 := n1_; have BK328 := n2_; have HB := n3_; clear n0_ n1_ n2_ n3_; (try clear hb); (try clear hb2); (try clear hk); (try clear hi)) | ((with_reducible refine gate_dst (N := 17) rfl ?_); refine box_event ?hg (N := 17) ?hd (cs := #[.int .i64 0, .int .i64 0, .int .u32 0, .string (⟨#[]⟩ : ByteArray)]) (t := 48) ?hr ?_; (case hd => rfl); (case hg => rfl); (case hr => first | (go_simp; done) | (go_simp; rfl)); intro gb334 hg w71 hbox hb; have n0_ := Aside0.mk (Kb.Q_below (by (with_reducible repeat (first | apply Kb.Q_alloc | apply Kb.Q_drewN | apply Kb.Q_drew)); exact HO302.out) hb); have n1_ := Aside0.mk (blk_below (g := gb292) (o := .cells #[.int .i64 a1_0, .int .i64 a1_1, .int .u32 a1_2, .string a1_3] 45 (0, 0)) (by (with_reducible repeat (first | refine blk_drewN ?_ _ | refine blk_drew ?_ | refine blk_alloc ?_ _)); exact BK292.out) hb); have n2_ := Aside0.mk (blk_below (g := gb328) (o := .cells #[.int .i64 t323, .int .i64 t324, .int .u32 t325, .string t326] 45 (0, 0)) (by (with_reducible repeat (first | refine blk_drewN ?_ _ | refine blk_drew ?_ | refine blk_alloc ?_ _)); exact BK328.out) hb); have n3_ := Aside0.mk (below_step (by repeat (first | (with_reducible first | exact HB.out | apply below_alloc | apply pw_below_drewN | apply below_drew1 | refine below_set ?_ GE292.out | refine below_set ?_ GE328.out) | exact HB.out)) hb); have n4_ := Aside0.mk (hbox); have n5_ := Aside0.mk ((by rw [hg]; exact (below_size (by repeat (first | (with_reducible first | exact HB.out | apply below_alloc | apply pw_below_drewN | apply below_drew1 | refine below_set ?_ GE292.out | refine below_set ?_ GE328.out) | exact HB.out))) : w.heap.size ≤ gb334)); have n6_ := Aside0.mk ((by rw [hg]; exact (below_size (by repeat (first | (with_reducible first | exact HB.out | apply below_alloc | apply pw_below_drewN | apply below_drew1 | refine below_set ?_ GE292.out | refine below_set ?_ GE328.out) | exact HB.out))) : w.heap.size ≤ gb334)); have n7_ := Aside0.mk ((by rw [hg]; exact Nat.ne_of_lt (blk_lt (g := gb292) (o := .cells #[.int .i64 a1_0, .int .i64 a1_1, .int .u32 a1_2, .string a1_3] 45 (0, 0)) (by (with_reducible repeat (first | refine blk_drewN ?_ _ | refine blk_drew ?_ | refine blk_alloc ?_ _)); exact BK292.out)) : gb292 ≠ gb334)); have n8_ := Aside0.mk ((by rw [hg]; exact Nat.ne_of_gt (blk_lt (g := gb292) (o := .cells #[.int .i64 a1_0, .int .i64 a1_1, .int .u32 a1_2, .string a1_3] 45 (0, 0)) (by (with_reducible repeat (first | refine blk_drewN ?_ _ | refine blk_drew ?_ | refine blk_alloc ?_ _)); exact BK292.out)) : gb334 ≠ gb292)); have n9_ := Aside0.mk ((by rw [hg]; exact Nat.ne_of_lt (blk_lt (g := gb328) (o := .cells #[.int .i64 t323, .int .i64 t324, .int .u32 t325, .string t326] 45 (0, 0)) (by (with_reducible repeat (first | refine blk_drewN ?_ _ | refine blk_drew ?_ | refine blk_alloc ?_ _)); exact BK328.out)) : gb328 ≠ gb334)); have n10_ := Aside0.mk ((by rw [hg]; exact Nat.ne_of_gt (blk_lt (g := gb328) (o := .cells #[.int .i64 t323, .int .i64 t324, .int .u32 t325, .string t326] 45 (0, 0)) (by (with_reducible repeat (first | refine blk_drewN ?_ _ | refine blk_drew ?_ | refine blk_alloc ?_ _)); exact BK328.out)) : gb334 ≠ gb328)); clear HO302; clear BK292; clear BK328; clear HB; have HO302 := n0_; have BK292 := n1_; have BK328 := n2_; have HB := n3_; have BK334 := n4_; have GW334 := n5_; have GE334 := n6_; have NB292_334 := n7_; have NB334_292 := n8_; have NB328_334 := n9_; have NB334_328 := n10_; clear n0_ n1_ n2_ n3_ n4_ n5_ n6_ n7_ n8_ n9_ n10_; clear hb hbox hg; have hnb72 := NB334_292.out; have hnc72 := NB292_334.out; have hnb73 := NB334_328.out; have hnc73 := NB328_334.out; have hcz74_0 : w71.cell? ⟨gb334, 0, none⟩ = some (.int .i64 0) := (blk_cell BK334.out 0).trans rfl; have hcz74_1 : w71.cell? ⟨gb334, 1, none⟩ = some (.int .i64 0) := (blk_cell BK334.out 1).trans rfl; have hcz74_2 : w71.cell? ⟨gb334, 2, none⟩ = some (.int .u32 0) := (blk_cell BK334.out 2).trans rfl; have hcz74_3 : w71.cell? ⟨gb334, 3, none⟩ = some (.string (⟨#[]⟩ : ByteArray)) := (blk_cell BK334.out 3).trans rfl; have hfz74_0 := blk_frozen BK334.out 0; have hfz74_1 := blk_frozen BK334.out 1; have hfz74_2 := blk_frozen BK334.out 2; have hfz74_3 := blk_frozen BK334.out 3))
                        have n0_ : Aside0 (Kb.Q (Kd.int .u8) 5 ((((w71.setCell ⟨gb334, 0, none⟩ (.int .i64 t329)).setCell ⟨gb334, 1, none⟩ (.int .i64 t330)).setCell ⟨gb334, 2, none⟩ (.int .u32 t331)).setCell ⟨gb334, 3, none⟩ (.string t332)) w.heap.size (fun _ => True) (.slice (some ⟨go53, 0, none⟩) y300.length co62) y322) := ⟨by (with_reducible repeat (first | apply Kb.Q_alloc | apply Kb.Q_drewN | apply Kb.Q_drew)); exact Kb.Q_mono (Kb.Q_far (p := ⟨gb334, 3, none⟩) (Kb.Q_far (p := ⟨gb334, 2, none⟩) (Kb.Q_far (p := ⟨gb334, 1, none⟩) (Kb.Q_far (p := ⟨gb334, 0, none⟩) (Kb.Q_types HO302.out BK334.out (by decide)) (fun _ hk => hk.2) (.int .i64 t329)) (fun _ hk => hk.2) (.int .i64 t330)) (fun _ hk => hk.2) (.int .u32 t331)) (fun _ hk => hk.2) (.string t332)) (fun _ hk => trivial)⟩
                        have n1_ : Aside0 (((((w71.setCell ⟨gb334, 0, none⟩ (.int .i64 t329)).setCell ⟨gb334, 1, none⟩ (.int .i64 t330)).setCell ⟨gb334, 2, none⟩ (.int .u32 t331)).setCell ⟨gb334, 3, none⟩ (.string t332)).heap[gb292]? = some (.cells #[.int .i64 a1_0, .int .i64 a1_1, .int .u32 a1_2, .string a1_3] 45 (0, 0))) := ⟨by (with_reducible repeat (first | refine blk_drewN ?_ _ | refine blk_drew ?_ | refine blk_alloc ?_ _)); refine blk_far ?_ NB292_334.out _; (with_reducible repeat (first | refine blk_drewN ?_ _ | refine blk_drew ?_ | refine blk_alloc ?_ _)); refine blk_far ?_ NB292_334.out _; (with_reducible repeat (first | refine blk_drewN ?_ _ | refine blk_drew ?_ | refine blk_alloc ?_ _)); refine blk_far ?_ NB292_334.out _; (with_reducible repeat (first | refine blk_drewN ?_ _ | refine blk_drew ?_ | refine blk_alloc ?_ _)); refine blk_far ?_ NB292_334.out _; (with_reducible repeat (first | refine blk_drewN ?_ _ | refine blk_drew ?_ | refine blk_alloc ?_ _)); exact BK292.out⟩
                        have n2_ : Aside0 (((((w71.setCell ⟨gb334, 0, none⟩ (.int .i64 t329)).setCell ⟨gb334, 1, none⟩ (.int .i64 t330)).setCell ⟨gb334, 2, none⟩ (.int .u32 t331)).setCell ⟨gb334, 3, none⟩ (.string t332)).heap[gb328]? = some (.cells #[.int .i64 t323, .int .i64 t324, .int .u32 t325, .string t326] 45 (0, 0))) := ⟨by (with_reducible repeat (first | refine blk_drewN ?_ _ | refine blk_drew ?_ | refine blk_alloc ?_ _)); refine blk_far ?_ NB328_334.out _; (with_reducible repeat (first | refine blk_drewN ?_ _ | refine blk_drew ?_ | refine blk_alloc ?_ _)); refine blk_far ?_ NB328_334.out _; (with_reducible repeat (first | refine blk_drewN ?_ _ | refine blk_drew ?_ | refine blk_alloc ?_ _)); refine blk_far ?_ NB328_334.out _; (with_reducible repeat (first | refine blk_drewN ?_ _ | refine blk_drew ?_ | refine blk_alloc ?_ _)); refine blk_far ?_ NB328_334.out _; (with_reducible repeat (first | refine blk_drewN ?_ _ | refine blk_drew ?_ | refine blk_alloc ?_ _)); exact BK328.out⟩
                        have n3_ : Aside0 (((((w71.setCell ⟨gb334, 0, none⟩ (.int .i64 t329)).setCell ⟨gb334, 1, none⟩ (.int .i64 t330)).setCell ⟨gb334, 2, none⟩ (.int .u32 t331)).setCell ⟨gb334, 3, none⟩ (.string t332)).heap[gb334]? = some (.cells #[.int .i64 t329, .int .i64 t330, .int .u32 t331, .string t332] 48 (0, 0))) := ⟨by (with_reducible repeat (first | refine blk_drewN ?_ _ | refine blk_drew ?_ | refine blk_alloc ?_ _)); refine blk_put (cs := #[.int .i64 t329, .int .i64 t330, .int .u32 t331, .string (⟨#[]⟩ : ByteArray)]) ?_ 3 _ rfl; (with_reducible repeat (first | refine blk_drewN ?_ _ | refine blk_drew ?_ | refine blk_alloc ?_ _)); refine blk_put (cs := #[.int .i64 t329, .int .i64 t330, .int .u32 0, .string (⟨#[]⟩ : ByteArray)]) ?_ 2 _ rfl; (with_reducible repeat (first | refine blk_drewN ?_ _ | refine blk_drew ?_ | refine blk_alloc ?_ _)); refine blk_put (cs := #[.int .i64 t329, .int .i64 0, .int .u32 0, .string (⟨#[]⟩ : ByteArray)]) ?_ 1 _ rfl; (with_reducible repeat (first | refine blk_drewN ?_ _ | refine blk_drew ?_ | refine blk_alloc ?_ _)); refine blk_put (cs := #[.int .i64 0, .int .i64 0, .int .u32 0, .string (⟨#[]⟩ : ByteArray)]) ?_ 0 _ rfl; (with_reducible repeat (first | refine blk_drewN ?_ _ | refine blk_drew ?_ | refine blk_alloc ?_ _)); exact BK334.out⟩
                        have n4_ : Aside0 (Below w.heap.size w ((((w71.setCell ⟨gb334, 0, none⟩ (.int .i64 t329)).setCell ⟨gb334, 1, none⟩ (.int .i64 t330)).setCell ⟨gb334, 2, none⟩ (.int .u32 t331)).setCell ⟨gb334, 3, none⟩ (.string t332))) := ⟨by repeat (first | (with_reducible first | exact HB.out | apply below_alloc | apply pw_below_drewN | apply below_drew1 | refine below_set ?_ GE292.out | refine below_set ?_ GE328.out | refine below_set ?_ GE334.out) | exact HB.out)⟩
                        (try clear HO302)
                        (try clear BK292)
                        (try clear BK328)
                        (try clear BK334)
                        (try clear HB)
                        generalize ((((w71.setCell ⟨gb334, 0, none⟩ (.int .i64 t329)).setCell ⟨gb334, 1, none⟩ (.int .i64 t330)).setCell ⟨gb334, 2, none⟩ (.int .u32 t331)).setCell ⟨gb334, 3, none⟩ (.string t332)) = w75 at n0_ n1_ n2_ n3_ n4_ ⊢
                        have HO302 := n0_
                        have BK292 := n1_
                        have BK328 := n2_
                        have BK334 := n3_
                        have HB := n4_
                        clear n0_ n1_ n2_ n3_ n4_
                        have n0_ := Aside0.mk (Kb.Q_drew HO302.out)
                        have n1_ := Aside0.mk (blk_drew BK292.out)
                        have n2_ := Aside0.mk (blk_drew BK328.out)
                        have n3_ := Aside0.mk (blk_drew BK334.out)
                        have n4_ := Aside0.mk (below_drew1 HB.out)
                        clear HO302
                        clear BK292
                        clear BK328
                        clear BK334
                        clear HB
                        have HO302 := n0_
                        have BK292 := n1_
                        have BK328 := n2_
                        have BK334 := n3_
                        have HB := n4_
                        clear n0_ n1_ n2_ n3_ n4_
                        refine start_ (n := 13) (S := fun w' => w'.cell? ⟨gb328, 0, none⟩ = some (.int .i64 t323) ∧ w'.cell? ⟨gb328, 1, none⟩ = some (.int .i64 t324) ∧ w'.cell? ⟨gb328, 2, none⟩ = some (.int .u32 t325) ∧ w'.cell? ⟨gb328, 3, none⟩ = some (.string t326) ∧ w'.cell? ⟨gb334, 0, none⟩ = some (.int .i64 t329) ∧ w'.cell? ⟨gb334, 1, none⟩ = some (.int .i64 t330) ∧ w'.cell? ⟨gb334, 2, none⟩ = some (.int .u32 t331) ∧ w'.cell? ⟨gb334, 3, none⟩ = some (.string t332)) (ds := []) #[false, false, false, false, false, false, false, false, false, false, false, false, false] (by kernel_rfl) rfl rfl ⟨(blk_cell BK328.out 0).trans rfl, (blk_cell BK328.out 1).trans rfl, (blk_cell BK328.out 2).trans rfl, (blk_cell BK328.out 3).trans rfl, (blk_cell BK334.out 0).trans rfl, (blk_cell BK334.out 1).trans rfl, (blk_cell BK334.out 2).trans rfl, (blk_cell BK334.out 3).trans rfl⟩ (fun hHeld => ?_); refine with_tabW weighbridgelaw07_IcmpParses.tab13 weighbridgelaw07_IcmpParses.bits13 (fun HT_ HW_ => ?_)
                        generalize w75.drew = w76 at HO302 BK292 BK328 BK334 HB hHeld ⊢
                        refine pure_ (i := 0) (N := some 67) (v := ?_) (a' := ?_) #[true, false, false, false, false, false, false, false, false, false, false, false, false] rfl rfl (any_of HT_.out (by kernel_rfl)) (fun _ _ _ h => h) (Or.inl ⟨by rfl, ?_⟩) ?_ ?_
                        rotate_left
                        · intro w'
                          go_simp
                          with_reducible rfl
                        rotate_left
                        · simp only [Act.put, List.setIfInBounds_toArray, List.set_cons_zero, List.set_cons_succ, i64_w, i32_w]
                          rfl
                        refine pure_ (i := 1) (N := some 68) (v := ?_) (a' := ?_) #[true, true, false, false, false, false, false, false, false, false, false, false, false] rfl rfl (any_of HT_.out (by kernel_rfl)) (fun _ _ _ h => h) (Or.inl ⟨by rfl, ?_⟩) ?_ ?_
                        rotate_left
                        · intro w'
                          go_simp
                          with_reducible rfl
                        rotate_left
                        · simp only [Act.put, List.setIfInBounds_toArray, List.set_cons_zero, List.set_cons_succ, i64_w, i32_w]
                          rfl
                        refine take_ (i := 2) (N := some 69) (v := ?_) (a' := ?_) #[true, true, true, false, false, false, false, false, false, false, false, false, false] rfl rfl (take_ofW HT_.out HW_.out (by kernel_rfl)) (fun _ _ _ h => h) (Or.inl ⟨by rfl, ?_⟩) hHeld ?_ ?_
                        rotate_left
                        · rintro w' ⟨s0, s1, s2, s3, s4, s5, s6, s7⟩
                          go_simp
                          with_reducible rfl
                        rotate_left
                        · simp only [Act.put, List.setIfInBounds_toArray, List.set_cons_zero, List.set_cons_succ, i64_w, i32_w]
                          rfl
                        refine take_ (i := 4) (N := some 71) (v := ?_) (a' := ?_) #[true, true, true, false, true, false, false, false, false, false, false, false, false] rfl rfl (take_ofW HT_.out HW_.out (by kernel_rfl)) (fun _ _ _ h => h) (Or.inl ⟨by rfl, ?_⟩) hHeld ?_ ?_
                        rotate_left
                        · rintro w' ⟨s0, s1, s2, s3, s4, s5, s6, s7⟩
                          go_simp
                          with_reducible rfl
                        rotate_left
                        · simp only [Act.put, List.setIfInBounds_toArray, List.set_cons_zero, List.set_cons_succ, i64_w, i32_w]
                          rfl
                        refine one_ (i := 3) (N := some 70) #[true, true, true, true, true, false, false, false, false, false, false, false, false] rfl rfl (one_of HT_.out (by kernel_rfl)) (by decide) (fun K hK => ?_)
                        refine goes_ Try.func24 (by kernel_rfl) rfl #[.agg #[.int .i64 t323, .int .i64 t324, .int .u32 t325, .string t326]] (by rfl) rfl rfl (by (try simp only [List.map_toArray, List.map_cons, List.map_nil]); first | done | rfl | (simp only [List.length_drop, List.length_take]; rfl)) ?_
                        with_reducible refine (weighbridgelaw07_ref.calls t323 t324 t325 t326 t335 t336 t337 t338 _ A57.out).mono ?_
                        rintro e w77 ⟨rfl, hb⟩
                        refine ⟨_, rfl, ?_⟩
                        have n0_ := Aside0.mk (Kb.Q_below (by (with_reducible repeat (first | apply Kb.Q_alloc | apply Kb.Q_drewN | apply Kb.Q_drew)); exact HO302.out) hb)
                        have n1_ := Aside0.mk (blk_below (g := gb292) (o := .cells #[.int .i64 a1_0, .int .i64 a1_1, .int .u32 a1_2, .string a1_3] 45 (0, 0)) (by (with_reducible repeat (first | refine blk_drewN ?_ _ | refine blk_drew ?_ | refine blk_alloc ?_ _)); exact BK292.out) hb)
                        have n2_ := Aside0.mk (blk_below (g := gb328) (o := .cells #[.int .i64 t323, .int .i64 t324, .int .u32 t325, .string t326] 45 (0, 0)) (by (with_reducible repeat (first | refine blk_drewN ?_ _ | refine blk_drew ?_ | refine blk_alloc ?_ _)); exact BK328.out) hb)
                        have n3_ := Aside0.mk (blk_below (g := gb334) (o := .cells #[.int .i64 t329, .int .i64 t330, .int .u32 t331, .string t332] 48 (0, 0)) (by (with_reducible repeat (first | refine blk_drewN ?_ _ | refine blk_drew ?_ | refine blk_alloc ?_ _)); exact BK334.out) hb)
                        have n4_ := Aside0.mk (below_step (by repeat (first | (with_reducible first | exact HB.out | apply below_alloc | apply pw_below_drewN | apply below_drew1 | refine below_set ?_ GE292.out | refine below_set ?_ GE328.out | refine below_set ?_ GE334.out) | exact HB.out)) hb)
                        clear HO302
                        clear BK292
                        clear BK328
                        clear BK334
                        clear HB
                        have HO302 := n0_
                        have BK292 := n1_
                        have BK328 := n2_
                        have BK334 := n3_
                        have HB := n4_
                        clear n0_ n1_ n2_ n3_ n4_
                        (try clear hb)
                        (try clear hb2)
                        (try clear hk)
                        (try clear hi)
                        refine hK.out _ _ ⟨(blk_cell BK328.out 0).trans rfl, (blk_cell BK328.out 1).trans rfl, (blk_cell BK328.out 2).trans rfl, (blk_cell BK328.out 3).trans rfl, (blk_cell BK334.out 0).trans rfl, (blk_cell BK334.out 1).trans rfl, (blk_cell BK334.out 2).trans rfl, (blk_cell BK334.out 3).trans rfl⟩ (fun hHeld => ?_)
                        clear hK K
                        refine norm_ (a' := ?_) ?_ ?_
                        rotate_left
                        · show Act.put _ (some 70) _ = _
                          simp only [Act.put, List.setIfInBounds_toArray, List.set_cons_zero, List.set_cons_succ, i64_w, i32_w]
                          rfl
                        refine pure_ (i := 5) (N := some 72) (v := ?_) (a' := ?_) #[true, true, true, true, true, true, false, false, false, false, false, false, false] rfl rfl (any_of HT_.out (by kernel_rfl)) (fun _ _ _ h => h) (Or.inl ⟨by rfl, ?_⟩) ?_ ?_
                        rotate_left
                        · intro w'
                          go_simp
                          with_reducible rfl
                        rotate_left
                        · simp only [Act.put, List.setIfInBounds_toArray, List.set_cons_zero, List.set_cons_succ, i64_w, i32_w]
                          rfl
                        refine pure_ (i := 6) (N := some 73) (v := ?_) (a' := ?_) #[true, true, true, true, true, true, true, false, false, false, false, false, false] rfl rfl (any_of HT_.out (by kernel_rfl)) (fun _ _ _ h => h) (Or.inl ⟨by rfl, ?_⟩) ?_ ?_
                        rotate_left
                        · intro w'
                          go_simp
                          with_reducible rfl
                        rotate_left
                        · simp only [Act.put, List.setIfInBounds_toArray, List.set_cons_zero, List.set_cons_succ, i64_w, i32_w]
                          rfl
                        refine pure_ (i := 7) (N := some 74) (v := ?_) (a' := ?_) #[true, true, true, true, true, true, true, true, false, false, false, false, false] rfl rfl (any_of HT_.out (by kernel_rfl)) (fun _ _ _ h => h) (Or.inl ⟨by rfl, ?_⟩) ?_ ?_
                        rotate_left
                        · intro w'
                          go_simp
                          with_reducible rfl
                        rotate_left
                        · simp only [Act.put, List.setIfInBounds_toArray, List.set_cons_zero, List.set_cons_succ, i64_w, i32_w]
                          rfl
                        refine pure_ (i := 8) (N := some 75) (v := ?_) (a' := ?_) #[true, true, true, true, true, true, true, true, true, false, false, false, false] rfl rfl (any_of HT_.out (by kernel_rfl)) (fun _ _ _ h => h) (Or.inl ⟨by rfl, ?_⟩) ?_ ?_
                        rotate_left
                        · intro w'
                          go_simp
                          with_reducible rfl
                        rotate_left
                        · simp only [Act.put, List.setIfInBounds_toArray, List.set_cons_zero, List.set_cons_succ, i64_w, i32_w]
                          rfl
                        refine pure_ (i := 9) (N := some 76) (v := ?_) (a' := ?_) #[true, true, true, true, true, true, true, true, true, true, false, false, false] rfl rfl (any_of HT_.out (by kernel_rfl)) (fun _ _ _ h => h) (Or.inl ⟨by rfl, ?_⟩) ?_ ?_
                        rotate_left
                        · intro w'
                          go_simp
                          with_reducible rfl
                        rotate_left
                        · simp only [Act.put, List.setIfInBounds_toArray, List.set_cons_zero, List.set_cons_succ, i64_w, i32_w]
                          rfl
                        refine pure_ (i := 10) (N := some 77) (v := ?_) (a' := ?_) #[true, true, true, true, true, true, true, true, true, true, true, false, false] rfl rfl (any_of HT_.out (by kernel_rfl)) (fun _ _ _ h => h) (Or.inl ⟨by rfl, ?_⟩) ?_ ?_
                        rotate_left
                        · intro w'
                          go_simp
                          with_reducible rfl
                        rotate_left
                        · simp only [Act.put, List.setIfInBounds_toArray, List.set_cons_zero, List.set_cons_succ, i64_w, i32_w]
                          rfl
                        refine pure_ (i := 11) (N := some 78) (v := ?_) (a' := ?_) #[true, true, true, true, true, true, true, true, true, true, true, true, false] rfl rfl (any_of HT_.out (by kernel_rfl)) (fun _ _ _ h => h) (Or.inl ⟨by rfl, ?_⟩) ?_ ?_
                        rotate_left
                        · intro w'
                          go_simp
                          with_reducible rfl
                        rotate_left
                        · simp only [Act.put, List.setIfInBounds_toArray, List.set_cons_zero, List.set_cons_succ, i64_w, i32_w]
                          rfl
                        refine pure_ (i := 12) (N := some 10) (v := ?_) (a' := ?_) #[true, true, true, true, true, true, true, true, true, true, true, true, true] rfl rfl (any_of HT_.out (by kernel_rfl)) (fun _ _ _ h => h) (Or.inl ⟨by rfl, ?_⟩) ?_ ?_
                        rotate_left
                        · intro w'
                          go_simp
                          with_reducible rfl
                        rotate_left
                        · simp only [Act.put, List.setIfInBounds_toArray, List.set_cons_zero, List.set_cons_succ, i64_w, i32_w]
                          rfl
                        refine done_ (done_of HT_.out (by kernel_rfl)) ?_
                        try go_wp2
                        go_ret
                        exact ⟨by first | rfl | (simp [errW_none, errW_some] <;> rfl) | (simp only [← hji50]; first | rfl | (simp [errW_none, errW_some] <;> rfl)) | (simp [*, errW_none, errW_some] <;> rfl), by repeat (first | (with_reducible first | exact HB.out | apply below_alloc | apply pw_below_drewN | apply below_drew1 | refine below_set ?_ GE292.out | refine below_set ?_ GE328.out | refine below_set ?_ GE334.out) | exact HB.out)⟩
                      · rw [if_neg c58] at H
                        have c58b0 : (t335 == t329 && (t336 == t330 && (t337 == t331 && (t338.toList == t332.toList)))) = false := by simpa using c58
                        (try (have c58b1 : decide (t335 = t329 && (t336 == t330 && (t337 == t331 && (t338.toList == t332.toList)))) = false := by simpa using c58))
                        (try (have c58b2 : (t335 == t329 && (t336 == t330 && (t337 == t331 && (t338.toList == t332.toList)))) = false := by simpa using c58))
                        (try (have c58b3 : ¬ (t335 = t329 && (t336 == t330 && (t337 == t331 && (t338.toList == t332.toList)))) := by simpa using c58))
                        clear c58
                        exact absurd ((Option.some.inj H).trans hr_) (by decide)
                  · rw [if_neg c52] at H
                    exact absurd H (by simp)
                · rw [if_neg c51] at H
                  exact absurd H (by simp)
          · rw [if_neg c18] at H
            exact absurd H (by simp)
        · replace c17 := Bool.eq_false_iff.mpr c17
          subst c17
          have H1 : ((icmp_Parse.f a0).bind fun bt339 => ((weighbridgeref07_Parse.f a0).bind fun bt345 => (if true = true then ((weighbridgelaw07_ref.f bt339.1 bt339.2.1 bt339.2.2.1 bt339.2.2.2.1).bind fun bt351 => (if (bt351.1 == bt345.1 && (bt351.2.1 == bt345.2.1 && (bt351.2.2.1 == bt345.2.2.1 && (bt351.2.2.2.toList == bt345.2.2.2.1.toList)))) = true then (some (bt339.2.2.2.2 == bt345.2.2.2.2)) else (some false))) else (some false)))) = some r := by rw [if_neg (show ¬ (false = true) by decide)] at H; exact H
          clear H
          have H := H1
          clear H1
          replace H := Option.bind_eq_some_iff.mp H
          obtain ⟨⟨t339, t340, t341, t342, t343⟩, A780, H⟩ := H
          replace H : ((weighbridgeref07_Parse.f a0).bind fun bt345 => (if true = true then ((weighbridgelaw07_ref.f t339 t340 t341 t342).bind fun bt351 => (if (bt351.1 == bt345.1 && (bt351.2.1 == bt345.2.1 && (bt351.2.2.1 == bt345.2.2.1 && (bt351.2.2.2.toList == bt345.2.2.2.1.toList)))) = true then (some (t343 == bt345.2.2.2.2)) else (some false))) else (some false))) = some r := H
          have A78 := Aside0.mk A780
          clear A780
          replace H := Option.bind_eq_some_iff.mp H
          obtain ⟨⟨t345, t346, t347, t348, t349⟩, A790, H⟩ := H
          replace H : (if true = true then ((weighbridgelaw07_ref.f t339 t340 t341 t342).bind fun bt351 => (if (bt351.1 == t345 && (bt351.2.1 == t346 && (bt351.2.2.1 == t347 && (bt351.2.2.2.toList == t348.toList)))) = true then (some (t343 == t349)) else (some false))) else (some false)) = some r := H
          have A79 := Aside0.mk A790
          clear A790
          have c80 : true = true := rfl
          · clear c80
            have H1 : ((weighbridgelaw07_ref.f t339 t340 t341 t342).bind fun bt351 => (if (bt351.1 == t345 && (bt351.2.1 == t346 && (bt351.2.2.1 == t347 && (bt351.2.2.2.toList == t348.toList)))) = true then (some (t343 == t349)) else (some false))) = some r := by rw [if_pos rfl] at H; exact H
            clear H
            have H := H1
            clear H1
            replace H := Option.bind_eq_some_iff.mp H
            obtain ⟨⟨t351, t352, t353, t354⟩, A810, H⟩ := H
            replace H : (if (t351 == t345 && (t352 == t346 && (t353 == t347 && (t354.toList == t348.toList)))) = true then (some (t343 == t349)) else (some false)) = some r := H
            have A81 := Aside0.mk A810
            clear A810
            by_cases c82 : (t351 == t345 && (t352 == t346 && (t353 == t347 && (t354.toList == t348.toList)))) = true
            · rw [if_pos c82] at H
              have c82b0 : (t351 == t345 && (t352 == t346 && (t353 == t347 && (t354.toList == t348.toList)))) = true := c82
              (try (have c82b1 : decide (t351 = t345 && (t352 == t346 && (t353 == t347 && (t354.toList == t348.toList)))) = true := by simpa using c82))
              (try (have c82b2 : (t351 == t345 && (t352 == t346 && (t353 == t347 && (t354.toList == t348.toList)))) = true := by simpa using c82))
              clear c82
              obtain rfl := Option.some.inj H
              try go_wp2_with (first | ((with_reducible refine gate_callee (f := 29) rfl ?_); refine goesL_ (some 59) rfl rfl Try.func29 (by kernel_rfl) rfl #[.string a0] rfl (by (try simp only [List.map_toArray, List.map_cons, List.map_nil]); first | done | rfl | (simp only [List.length_drop, List.length_take]; rfl)) ?_; (with_reducible refine (icmp_Parse.calls a0 t339 t340 t341 t342 t343 _ A78.out).mono ?_); rintro e w83 ⟨rfl, hb⟩; (try clear A78); refine ⟨_, rfl, ?_⟩; have n0_ := Aside0.mk (blk_below (g := gb292) (o := .cells #[.int .i64 a1_0, .int .i64 a1_1, .int .u32 a1_2, .string a1_3] 45 (0, 0)) (by (with_reducible repeat (first | refine blk_drewN ?_ _ | refine blk_drew ?_ | refine blk_alloc ?_ _)); exact BK292.out) hb); have n1_ := Aside0.mk (below_step (by repeat (first | (with_reducible first | exact HB.out | apply below_alloc | apply pw_below_drewN | apply below_drew1 | refine below_set ?_ GE292.out) | exact HB.out)) hb); clear BK292; clear HB; have BK292 := n0_; have HB := n1_; clear n0_ n1_; (try clear hb); (try clear hb2); (try clear hk); (try clear hi)) | ((with_reducible refine gate_dst (N := 15) rfl ?_); refine box_event ?hg (N := 15) ?hd (cs := #[.int .i64 0, .int .i64 0, .int .u32 0, .string (⟨#[]⟩ : ByteArray)]) (t := 45) ?hr ?_; (case hd => rfl); (case hg => rfl); (case hr => first | (go_simp; done) | (go_simp; rfl)); intro gb344 hg w84 hbox hb; have n0_ := Aside0.mk (blk_below (g := gb292) (o := .cells #[.int .i64 a1_0, .int .i64 a1_1, .int .u32 a1_2, .string a1_3] 45 (0, 0)) (by (with_reducible repeat (first | refine blk_drewN ?_ _ | refine blk_drew ?_ | refine blk_alloc ?_ _)); exact BK292.out) hb); have n1_ := Aside0.mk (below_step (by repeat (first | (with_reducible first | exact HB.out | apply below_alloc | apply pw_below_drewN | apply below_drew1 | refine below_set ?_ GE292.out) | exact HB.out)) hb); have n2_ := Aside0.mk (hbox); have n3_ := Aside0.mk ((by rw [hg]; exact (below_size (by repeat (first | (with_reducible first | exact HB.out | apply below_alloc | apply pw_below_drewN | apply below_drew1 | refine below_set ?_ GE292.out) | exact HB.out))) : w.heap.size ≤ gb344)); have n4_ := Aside0.mk ((by rw [hg]; exact (below_size (by repeat (first | (with_reducible first | exact HB.out | apply below_alloc | apply pw_below_drewN | apply below_drew1 | refine below_set ?_ GE292.out) | exact HB.out))) : w.heap.size ≤ gb344)); have n5_ := Aside0.mk ((by rw [hg]; exact Nat.ne_of_lt (blk_lt (g := gb292) (o := .cells #[.int .i64 a1_0, .int .i64 a1_1, .int .u32 a1_2, .string a1_3] 45 (0, 0)) (by (with_reducible repeat (first | refine blk_drewN ?_ _ | refine blk_drew ?_ | refine blk_alloc ?_ _)); exact BK292.out)) : gb292 ≠ gb344)); have n6_ := Aside0.mk ((by rw [hg]; exact Nat.ne_of_gt (blk_lt (g := gb292) (o := .cells #[.int .i64 a1_0, .int .i64 a1_1, .int .u32 a1_2, .string a1_3] 45 (0, 0)) (by (with_reducible repeat (first | refine blk_drewN ?_ _ | refine blk_drew ?_ | refine blk_alloc ?_ _)); exact BK292.out)) : gb344 ≠ gb292)); clear BK292; clear HB; have BK292 := n0_; have HB := n1_; have BK344 := n2_; have GW344 := n3_; have GE344 := n4_; have NB292_344 := n5_; have NB344_292 := n6_; clear n0_ n1_ n2_ n3_ n4_ n5_ n6_; clear hb hbox hg; have hnb85 := NB344_292.out; have hnc85 := NB292_344.out; have hcz86_0 : w84.cell? ⟨gb344, 0, none⟩ = some (.int .i64 0) := (blk_cell BK344.out 0).trans rfl; have hcz86_1 : w84.cell? ⟨gb344, 1, none⟩ = some (.int .i64 0) := (blk_cell BK344.out 1).trans rfl; have hcz86_2 : w84.cell? ⟨gb344, 2, none⟩ = some (.int .u32 0) := (blk_cell BK344.out 2).trans rfl; have hcz86_3 : w84.cell? ⟨gb344, 3, none⟩ = some (.string (⟨#[]⟩ : ByteArray)) := (blk_cell BK344.out 3).trans rfl; have hfz86_0 := blk_frozen BK344.out 0; have hfz86_1 := blk_frozen BK344.out 1; have hfz86_2 := blk_frozen BK344.out 2; have hfz86_3 := blk_frozen BK344.out 3) | ((with_reducible refine gate_callee (f := 30) rfl ?_); refine goesL_ (some 64) rfl rfl Try.func30 (by kernel_rfl) rfl #[.string a0] rfl (by (try simp only [List.map_toArray, List.map_cons, List.map_nil]); first | done | rfl | (simp only [List.length_drop, List.length_take]; rfl)) ?_; (with_reducible refine (weighbridgeref07_Parse.calls a0 t345 t346 t347 t348 t349 _ A79.out).mono ?_); rintro e w87 ⟨rfl, hb⟩; (try clear A79); refine ⟨_, rfl, ?_⟩; have n0_ := Aside0.mk (blk_below (g := gb292) (o := .cells #[.int .i64 a1_0, .int .i64 a1_1, .int .u32 a1_2, .string a1_3] 45 (0, 0)) (by (with_reducible repeat (first | refine blk_drewN ?_ _ | refine blk_drew ?_ | refine blk_alloc ?_ _)); refine blk_far ?_ NB292_344.out _; (with_reducible repeat (first | refine blk_drewN ?_ _ | refine blk_drew ?_ | refine blk_alloc ?_ _)); refine blk_far ?_ NB292_344.out _; (with_reducible repeat (first | refine blk_drewN ?_ _ | refine blk_drew ?_ | refine blk_alloc ?_ _)); refine blk_far ?_ NB292_344.out _; (with_reducible repeat (first | refine blk_drewN ?_ _ | refine blk_drew ?_ | refine blk_alloc ?_ _)); refine blk_far ?_ NB292_344.out _; (with_reducible repeat (first | refine blk_drewN ?_ _ | refine blk_drew ?_ | refine blk_alloc ?_ _)); exact BK292.out) hb); have n1_ := Aside0.mk (blk_below (g := gb344) (o := .cells #[.int .i64 t339, .int .i64 t340, .int .u32 t341, .string t342] 45 (0, 0)) (by (with_reducible repeat (first | refine blk_drewN ?_ _ | refine blk_drew ?_ | refine blk_alloc ?_ _)); refine blk_put (cs := #[.int .i64 t339, .int .i64 t340, .int .u32 t341, .string (⟨#[]⟩ : ByteArray)]) ?_ 3 _ rfl; (with_reducible repeat (first | refine blk_drewN ?_ _ | refine blk_drew ?_ | refine blk_alloc ?_ _)); refine blk_put (cs := #[.int .i64 t339, .int .i64 t340, .int .u32 0, .string (⟨#[]⟩ : ByteArray)]) ?_ 2 _ rfl; (with_reducible repeat (first | refine blk_drewN ?_ _ | refine blk_drew ?_ | refine blk_alloc ?_ _)); refine blk_put (cs := #[.int .i64 t339, .int .i64 0, .int .u32 0, .string (⟨#[]⟩ : ByteArray)]) ?_ 1 _ rfl; (with_reducible repeat (first | refine blk_drewN ?_ _ | refine blk_drew ?_ | refine blk_alloc ?_ _)); refine blk_put (cs := #[.int .i64 0, .int .i64 0, .int .u32 0, .string (⟨#[]⟩ : ByteArray)]) ?_ 0 _ rfl; (with_reducible repeat (first | refine blk_drewN ?_ _ | refine blk_drew ?_ | refine blk_alloc ?_ _)); exact BK344.out) hb); have n2_ := Aside0.mk (below_step (by repeat (first | (with_reducible first | exact HB.out | apply below_alloc | apply pw_below_drewN | apply below_drew1 | refine below_set ?_ GE292.out | refine below_set ?_ GE344.out) | exact HB.out)) hb); clear BK292; clear BK344; clear HB; have BK292 := n0_; have BK344 := n1_; have HB := n2_; clear n0_ n1_ n2_; (try clear hb); (try clear hb2); (try clear hk); (try clear hi)) | ((with_reducible refine gate_dst (N := 17) rfl ?_); refine box_event ?hg (N := 17) ?hd (cs := #[.int .i64 0, .int .i64 0, .int .u32 0, .string (⟨#[]⟩ : ByteArray)]) (t := 48) ?hr ?_; (case hd => rfl); (case hg => rfl); (case hr => first | (go_simp; done) | (go_simp; rfl)); intro gb350 hg w88 hbox hb; have n0_ := Aside0.mk (blk_below (g := gb292) (o := .cells #[.int .i64 a1_0, .int .i64 a1_1, .int .u32 a1_2, .string a1_3] 45 (0, 0)) (by (with_reducible repeat (first | refine blk_drewN ?_ _ | refine blk_drew ?_ | refine blk_alloc ?_ _)); exact BK292.out) hb); have n1_ := Aside0.mk (blk_below (g := gb344) (o := .cells #[.int .i64 t339, .int .i64 t340, .int .u32 t341, .string t342] 45 (0, 0)) (by (with_reducible repeat (first | refine blk_drewN ?_ _ | refine blk_drew ?_ | refine blk_alloc ?_ _)); exact BK344.out) hb); have n2_ := Aside0.mk (below_step (by repeat (first | (with_reducible first | exact HB.out | apply below_alloc | apply pw_below_drewN | apply below_drew1 | refine below_set ?_ GE292.out | refine below_set ?_ GE344.out) | exact HB.out)) hb); have n3_ := Aside0.mk (hbox); have n4_ := Aside0.mk ((by rw [hg]; exact (below_size (by repeat (first | (with_reducible first | exact HB.out | apply below_alloc | apply pw_below_drewN | apply below_drew1 | refine below_set ?_ GE292.out | refine below_set ?_ GE344.out) | exact HB.out))) : w.heap.size ≤ gb350)); have n5_ := Aside0.mk ((by rw [hg]; exact (below_size (by repeat (first | (with_reducible first | exact HB.out | apply below_alloc | apply pw_below_drewN | apply below_drew1 | refine below_set ?_ GE292.out | refine below_set ?_ GE344.out) | exact HB.out))) : w.heap.size ≤ gb350)); have n6_ := Aside0.mk ((by rw [hg]; exact Nat.ne_of_lt (blk_lt (g := gb292) (o := .cells #[.int .i64 a1_0, .int .i64 a1_1, .int .u32 a1_2, .string a1_3] 45 (0, 0)) (by (with_reducible repeat (first | refine blk_drewN ?_ _ | refine blk_drew ?_ | refine blk_alloc ?_ _)); exact BK292.out)) : gb292 ≠ gb350)); have n7_ := Aside0.mk ((by rw [hg]; exact Nat.ne_of_gt (blk_lt (g := gb292) (o := .cells #[.int .i64 a1_0, .int .i64 a1_1, .int .u32 a1_2, .string a1_3] 45 (0, 0)) (by (with_reducible repeat (first | refine blk_drewN ?_ _ | refine blk_drew ?_ | refine blk_alloc ?_ _)); exact BK292.out)) : gb350 ≠ gb292)); have n8_ := Aside0.mk ((by rw [hg]; exact Nat.ne_of_lt (blk_lt (g := gb344) (o := .cells #[.int .i64 t339, .int .i64 t340, .int .u32 t341, .string t342] 45 (0, 0)) (by (with_reducible repeat (first | refine blk_drewN ?_ _ | refine blk_drew ?_ | refine blk_alloc ?_ _)); exact BK344.out)) : gb344 ≠ gb350)); have n9_ := Aside0.mk ((by rw [hg]; exact Nat.ne_of_gt (blk_lt (g := gb344) (o := .cells #[.int .i64 t339, .int .i64 t340, .int .u32 t341, .string t342] 45 (0, 0)) (by (with_reducible repeat (first | refine blk_drewN ?_ _ | refine blk_drew ?_ | refine blk_alloc ?_ _)); exact BK344.out)) : gb350 ≠ gb344)); clear BK292; clear BK344; clear HB; have BK292 := n0_; have BK344 := n1_; have HB := n2_; have BK350 := n3_; have GW350 := n4_; have GE350 := n5_; have NB292_350 := n6_; have NB350_292 := n7_; have NB344_350 := n8_; have NB350_344 := n9_; clear n0_ n1_ n2_ n3_ n4_ n5_ n6_ n7_ n8_ n9_; clear hb hbox hg; have hnb89 := NB350_292.out; have hnc89 := NB292_350.out; have hnb90 := NB350_344.out; have hnc90 := NB344_350.out; have hcz91_0 : w88.cell? ⟨gb350, 0, none⟩ = some (.int .i64 0) := (blk_cell BK350.out 0).trans rfl; have hcz91_1 : w88.cell? ⟨gb350, 1, none⟩ = some (.int .i64 0) := (blk_cell BK350.out 1).trans rfl; have hcz91_2 : w88.cell? ⟨gb350, 2, none⟩ = some (.int .u32 0) := (blk_cell BK350.out 2).trans rfl; have hcz91_3 : w88.cell? ⟨gb350, 3, none⟩ = some (.string (⟨#[]⟩ : ByteArray)) := (blk_cell BK350.out 3).trans rfl; have hfz91_0 := blk_frozen BK350.out 0; have hfz91_1 := blk_frozen BK350.out 1; have hfz91_2 := blk_frozen BK350.out 2; have hfz91_3 := blk_frozen BK350.out 3))
              have n0_ : Aside0 (((((w88.setCell ⟨gb350, 0, none⟩ (.int .i64 t345)).setCell ⟨gb350, 1, none⟩ (.int .i64 t346)).setCell ⟨gb350, 2, none⟩ (.int .u32 t347)).setCell ⟨gb350, 3, none⟩ (.string t348)).heap[gb292]? = some (.cells #[.int .i64 a1_0, .int .i64 a1_1, .int .u32 a1_2, .string a1_3] 45 (0, 0))) := ⟨by (with_reducible repeat (first | refine blk_drewN ?_ _ | refine blk_drew ?_ | refine blk_alloc ?_ _)); refine blk_far ?_ NB292_350.out _; (with_reducible repeat (first | refine blk_drewN ?_ _ | refine blk_drew ?_ | refine blk_alloc ?_ _)); refine blk_far ?_ NB292_350.out _; (with_reducible repeat (first | refine blk_drewN ?_ _ | refine blk_drew ?_ | refine blk_alloc ?_ _)); refine blk_far ?_ NB292_350.out _; (with_reducible repeat (first | refine blk_drewN ?_ _ | refine blk_drew ?_ | refine blk_alloc ?_ _)); refine blk_far ?_ NB292_350.out _; (with_reducible repeat (first | refine blk_drewN ?_ _ | refine blk_drew ?_ | refine blk_alloc ?_ _)); exact BK292.out⟩
              have n1_ : Aside0 (((((w88.setCell ⟨gb350, 0, none⟩ (.int .i64 t345)).setCell ⟨gb350, 1, none⟩ (.int .i64 t346)).setCell ⟨gb350, 2, none⟩ (.int .u32 t347)).setCell ⟨gb350, 3, none⟩ (.string t348)).heap[gb344]? = some (.cells #[.int .i64 t339, .int .i64 t340, .int .u32 t341, .string t342] 45 (0, 0))) := ⟨by (with_reducible repeat (first | refine blk_drewN ?_ _ | refine blk_drew ?_ | refine blk_alloc ?_ _)); refine blk_far ?_ NB344_350.out _; (with_reducible repeat (first | refine blk_drewN ?_ _ | refine blk_drew ?_ | refine blk_alloc ?_ _)); refine blk_far ?_ NB344_350.out _; (with_reducible repeat (first | refine blk_drewN ?_ _ | refine blk_drew ?_ | refine blk_alloc ?_ _)); refine blk_far ?_ NB344_350.out _; (with_reducible repeat (first | refine blk_drewN ?_ _ | refine blk_drew ?_ | refine blk_alloc ?_ _)); refine blk_far ?_ NB344_350.out _; (with_reducible repeat (first | refine blk_drewN ?_ _ | refine blk_drew ?_ | refine blk_alloc ?_ _)); exact BK344.out⟩
              have n2_ : Aside0 (((((w88.setCell ⟨gb350, 0, none⟩ (.int .i64 t345)).setCell ⟨gb350, 1, none⟩ (.int .i64 t346)).setCell ⟨gb350, 2, none⟩ (.int .u32 t347)).setCell ⟨gb350, 3, none⟩ (.string t348)).heap[gb350]? = some (.cells #[.int .i64 t345, .int .i64 t346, .int .u32 t347, .string t348] 48 (0, 0))) := ⟨by (with_reducible repeat (first | refine blk_drewN ?_ _ | refine blk_drew ?_ | refine blk_alloc ?_ _)); refine blk_put (cs := #[.int .i64 t345, .int .i64 t346, .int .u32 t347, .string (⟨#[]⟩ : ByteArray)]) ?_ 3 _ rfl; (with_reducible repeat (first | refine blk_drewN ?_ _ | refine blk_drew ?_ | refine blk_alloc ?_ _)); refine blk_put (cs := #[.int .i64 t345, .int .i64 t346, .int .u32 0, .string (⟨#[]⟩ : ByteArray)]) ?_ 2 _ rfl; (with_reducible repeat (first | refine blk_drewN ?_ _ | refine blk_drew ?_ | refine blk_alloc ?_ _)); refine blk_put (cs := #[.int .i64 t345, .int .i64 0, .int .u32 0, .string (⟨#[]⟩ : ByteArray)]) ?_ 1 _ rfl; (with_reducible repeat (first | refine blk_drewN ?_ _ | refine blk_drew ?_ | refine blk_alloc ?_ _)); refine blk_put (cs := #[.int .i64 0, .int .i64 0, .int .u32 0, .string (⟨#[]⟩ : ByteArray)]) ?_ 0 _ rfl; (with_reducible repeat (first | refine blk_drewN ?_ _ | refine blk_drew ?_ | refine blk_alloc ?_ _)); exact BK350.out⟩
              have n3_ : Aside0 (Below w.heap.size w ((((w88.setCell ⟨gb350, 0, none⟩ (.int .i64 t345)).setCell ⟨gb350, 1, none⟩ (.int .i64 t346)).setCell ⟨gb350, 2, none⟩ (.int .u32 t347)).setCell ⟨gb350, 3, none⟩ (.string t348))) := ⟨by repeat (first | (with_reducible first | exact HB.out | apply below_alloc | apply pw_below_drewN | apply below_drew1 | refine below_set ?_ GE292.out | refine below_set ?_ GE344.out | refine below_set ?_ GE350.out) | exact HB.out)⟩
              (try clear BK292)
              (try clear BK344)
              (try clear BK350)
              (try clear HB)
              generalize ((((w88.setCell ⟨gb350, 0, none⟩ (.int .i64 t345)).setCell ⟨gb350, 1, none⟩ (.int .i64 t346)).setCell ⟨gb350, 2, none⟩ (.int .u32 t347)).setCell ⟨gb350, 3, none⟩ (.string t348)) = w92 at n0_ n1_ n2_ n3_ ⊢
              have BK292 := n0_
              have BK344 := n1_
              have BK350 := n2_
              have HB := n3_
              clear n0_ n1_ n2_ n3_
              have n0_ := Aside0.mk (blk_drew BK292.out)
              have n1_ := Aside0.mk (blk_drew BK344.out)
              have n2_ := Aside0.mk (blk_drew BK350.out)
              have n3_ := Aside0.mk (below_drew1 HB.out)
              clear BK292
              clear BK344
              clear BK350
              clear HB
              have BK292 := n0_
              have BK344 := n1_
              have BK350 := n2_
              have HB := n3_
              clear n0_ n1_ n2_ n3_
              refine start_ (n := 13) (S := fun w' => w'.cell? ⟨gb344, 0, none⟩ = some (.int .i64 t339) ∧ w'.cell? ⟨gb344, 1, none⟩ = some (.int .i64 t340) ∧ w'.cell? ⟨gb344, 2, none⟩ = some (.int .u32 t341) ∧ w'.cell? ⟨gb344, 3, none⟩ = some (.string t342) ∧ w'.cell? ⟨gb350, 0, none⟩ = some (.int .i64 t345) ∧ w'.cell? ⟨gb350, 1, none⟩ = some (.int .i64 t346) ∧ w'.cell? ⟨gb350, 2, none⟩ = some (.int .u32 t347) ∧ w'.cell? ⟨gb350, 3, none⟩ = some (.string t348)) (ds := []) #[false, false, false, false, false, false, false, false, false, false, false, false, false] (by kernel_rfl) rfl rfl ⟨(blk_cell BK344.out 0).trans rfl, (blk_cell BK344.out 1).trans rfl, (blk_cell BK344.out 2).trans rfl, (blk_cell BK344.out 3).trans rfl, (blk_cell BK350.out 0).trans rfl, (blk_cell BK350.out 1).trans rfl, (blk_cell BK350.out 2).trans rfl, (blk_cell BK350.out 3).trans rfl⟩ (fun hHeld => ?_); refine with_tabW weighbridgelaw07_IcmpParses.tab13 weighbridgelaw07_IcmpParses.bits13 (fun HT_ HW_ => ?_)
              generalize w92.drew = w93 at BK292 BK344 BK350 HB hHeld ⊢
              refine pure_ (i := 0) (N := some 67) (v := ?_) (a' := ?_) #[true, false, false, false, false, false, false, false, false, false, false, false, false] rfl rfl (any_of HT_.out (by kernel_rfl)) (fun _ _ _ h => h) (Or.inl ⟨by rfl, ?_⟩) ?_ ?_
              rotate_left
              · intro w'
                go_simp
                with_reducible rfl
              rotate_left
              · simp only [Act.put, List.setIfInBounds_toArray, List.set_cons_zero, List.set_cons_succ, i64_w, i32_w]
                rfl
              refine pure_ (i := 1) (N := some 68) (v := ?_) (a' := ?_) #[true, true, false, false, false, false, false, false, false, false, false, false, false] rfl rfl (any_of HT_.out (by kernel_rfl)) (fun _ _ _ h => h) (Or.inl ⟨by rfl, ?_⟩) ?_ ?_
              rotate_left
              · intro w'
                go_simp
                with_reducible rfl
              rotate_left
              · simp only [Act.put, List.setIfInBounds_toArray, List.set_cons_zero, List.set_cons_succ, i64_w, i32_w]
                rfl
              refine take_ (i := 2) (N := some 69) (v := ?_) (a' := ?_) #[true, true, true, false, false, false, false, false, false, false, false, false, false] rfl rfl (take_ofW HT_.out HW_.out (by kernel_rfl)) (fun _ _ _ h => h) (Or.inl ⟨by rfl, ?_⟩) hHeld ?_ ?_
              rotate_left
              · rintro w' ⟨s0, s1, s2, s3, s4, s5, s6, s7⟩
                go_simp
                with_reducible rfl
              rotate_left
              · simp only [Act.put, List.setIfInBounds_toArray, List.set_cons_zero, List.set_cons_succ, i64_w, i32_w]
                rfl
              refine take_ (i := 4) (N := some 71) (v := ?_) (a' := ?_) #[true, true, true, false, true, false, false, false, false, false, false, false, false] rfl rfl (take_ofW HT_.out HW_.out (by kernel_rfl)) (fun _ _ _ h => h) (Or.inl ⟨by rfl, ?_⟩) hHeld ?_ ?_
              rotate_left
              · rintro w' ⟨s0, s1, s2, s3, s4, s5, s6, s7⟩
                go_simp
                with_reducible rfl
              rotate_left
              · simp only [Act.put, List.setIfInBounds_toArray, List.set_cons_zero, List.set_cons_succ, i64_w, i32_w]
                rfl
              refine one_ (i := 3) (N := some 70) #[true, true, true, true, true, false, false, false, false, false, false, false, false] rfl rfl (one_of HT_.out (by kernel_rfl)) (by decide) (fun K hK => ?_)
              refine goes_ Try.func24 (by kernel_rfl) rfl #[.agg #[.int .i64 t339, .int .i64 t340, .int .u32 t341, .string t342]] (by rfl) rfl rfl (by (try simp only [List.map_toArray, List.map_cons, List.map_nil]); first | done | rfl | (simp only [List.length_drop, List.length_take]; rfl)) ?_
              with_reducible refine (weighbridgelaw07_ref.calls t339 t340 t341 t342 t351 t352 t353 t354 _ A81.out).mono ?_
              rintro e w94 ⟨rfl, hb⟩
              refine ⟨_, rfl, ?_⟩
              have n0_ := Aside0.mk (blk_below (g := gb292) (o := .cells #[.int .i64 a1_0, .int .i64 a1_1, .int .u32 a1_2, .string a1_3] 45 (0, 0)) (by (with_reducible repeat (first | refine blk_drewN ?_ _ | refine blk_drew ?_ | refine blk_alloc ?_ _)); exact BK292.out) hb)
              have n1_ := Aside0.mk (blk_below (g := gb344) (o := .cells #[.int .i64 t339, .int .i64 t340, .int .u32 t341, .string t342] 45 (0, 0)) (by (with_reducible repeat (first | refine blk_drewN ?_ _ | refine blk_drew ?_ | refine blk_alloc ?_ _)); exact BK344.out) hb)
              have n2_ := Aside0.mk (blk_below (g := gb350) (o := .cells #[.int .i64 t345, .int .i64 t346, .int .u32 t347, .string t348] 48 (0, 0)) (by (with_reducible repeat (first | refine blk_drewN ?_ _ | refine blk_drew ?_ | refine blk_alloc ?_ _)); exact BK350.out) hb)
              have n3_ := Aside0.mk (below_step (by repeat (first | (with_reducible first | exact HB.out | apply below_alloc | apply pw_below_drewN | apply below_drew1 | refine below_set ?_ GE292.out | refine below_set ?_ GE344.out | refine below_set ?_ GE350.out) | exact HB.out)) hb)
              clear BK292
              clear BK344
              clear BK350
              clear HB
              have BK292 := n0_
              have BK344 := n1_
              have BK350 := n2_
              have HB := n3_
              clear n0_ n1_ n2_ n3_
              (try clear hb)
              (try clear hb2)
              (try clear hk)
              (try clear hi)
              refine hK.out _ _ ⟨(blk_cell BK344.out 0).trans rfl, (blk_cell BK344.out 1).trans rfl, (blk_cell BK344.out 2).trans rfl, (blk_cell BK344.out 3).trans rfl, (blk_cell BK350.out 0).trans rfl, (blk_cell BK350.out 1).trans rfl, (blk_cell BK350.out 2).trans rfl, (blk_cell BK350.out 3).trans rfl⟩ (fun hHeld => ?_)
              clear hK K
              refine norm_ (a' := ?_) ?_ ?_
              rotate_left
              · show Act.put _ (some 70) _ = _
                simp only [Act.put, List.setIfInBounds_toArray, List.set_cons_zero, List.set_cons_succ, i64_w, i32_w]
                rfl
              refine pure_ (i := 5) (N := some 72) (v := ?_) (a' := ?_) #[true, true, true, true, true, true, false, false, false, false, false, false, false] rfl rfl (any_of HT_.out (by kernel_rfl)) (fun _ _ _ h => h) (Or.inl ⟨by rfl, ?_⟩) ?_ ?_
              rotate_left
              · intro w'
                go_simp
                with_reducible rfl
              rotate_left
              · simp only [Act.put, List.setIfInBounds_toArray, List.set_cons_zero, List.set_cons_succ, i64_w, i32_w]
                rfl
              refine pure_ (i := 6) (N := some 73) (v := ?_) (a' := ?_) #[true, true, true, true, true, true, true, false, false, false, false, false, false] rfl rfl (any_of HT_.out (by kernel_rfl)) (fun _ _ _ h => h) (Or.inl ⟨by rfl, ?_⟩) ?_ ?_
              rotate_left
              · intro w'
                go_simp
                with_reducible rfl
              rotate_left
              · simp only [Act.put, List.setIfInBounds_toArray, List.set_cons_zero, List.set_cons_succ, i64_w, i32_w]
                rfl
              refine pure_ (i := 7) (N := some 74) (v := ?_) (a' := ?_) #[true, true, true, true, true, true, true, true, false, false, false, false, false] rfl rfl (any_of HT_.out (by kernel_rfl)) (fun _ _ _ h => h) (Or.inl ⟨by rfl, ?_⟩) ?_ ?_
              rotate_left
              · intro w'
                go_simp
                with_reducible rfl
              rotate_left
              · simp only [Act.put, List.setIfInBounds_toArray, List.set_cons_zero, List.set_cons_succ, i64_w, i32_w]
                rfl
              refine pure_ (i := 8) (N := some 75) (v := ?_) (a' := ?_) #[true, true, true, true, true, true, true, true, true, false, false, false, false] rfl rfl (any_of HT_.out (by kernel_rfl)) (fun _ _ _ h => h) (Or.inl ⟨by rfl, ?_⟩) ?_ ?_
              rotate_left
              · intro w'
                go_simp
                with_reducible rfl
              rotate_left
              · simp only [Act.put, List.setIfInBounds_toArray, List.set_cons_zero, List.set_cons_succ, i64_w, i32_w]
                rfl
              refine pure_ (i := 9) (N := some 76) (v := ?_) (a' := ?_) #[true, true, true, true, true, true, true, true, true, true, false, false, false] rfl rfl (any_of HT_.out (by kernel_rfl)) (fun _ _ _ h => h) (Or.inl ⟨by rfl, ?_⟩) ?_ ?_
              rotate_left
              · intro w'
                go_simp
                with_reducible rfl
              rotate_left
              · simp only [Act.put, List.setIfInBounds_toArray, List.set_cons_zero, List.set_cons_succ, i64_w, i32_w]
                rfl
              refine pure_ (i := 10) (N := some 77) (v := ?_) (a' := ?_) #[true, true, true, true, true, true, true, true, true, true, true, false, false] rfl rfl (any_of HT_.out (by kernel_rfl)) (fun _ _ _ h => h) (Or.inl ⟨by rfl, ?_⟩) ?_ ?_
              rotate_left
              · intro w'
                go_simp
                with_reducible rfl
              rotate_left
              · simp only [Act.put, List.setIfInBounds_toArray, List.set_cons_zero, List.set_cons_succ, i64_w, i32_w]
                rfl
              refine pure_ (i := 11) (N := some 78) (v := ?_) (a' := ?_) #[true, true, true, true, true, true, true, true, true, true, true, true, false] rfl rfl (any_of HT_.out (by kernel_rfl)) (fun _ _ _ h => h) (Or.inl ⟨by rfl, ?_⟩) ?_ ?_
              rotate_left
              · intro w'
                go_simp
                with_reducible rfl
              rotate_left
              · simp only [Act.put, List.setIfInBounds_toArray, List.set_cons_zero, List.set_cons_succ, i64_w, i32_w]
                rfl
              refine pure_ (i := 12) (N := some 10) (v := ?_) (a' := ?_) #[true, true, true, true, true, true, true, true, true, true, true, true, true] rfl rfl (any_of HT_.out (by kernel_rfl)) (fun _ _ _ h => h) (Or.inl ⟨by rfl, ?_⟩) ?_ ?_
              rotate_left
              · intro w'
                go_simp
                with_reducible rfl
              rotate_left
              · simp only [Act.put, List.setIfInBounds_toArray, List.set_cons_zero, List.set_cons_succ, i64_w, i32_w]
                rfl
              refine done_ (done_of HT_.out (by kernel_rfl)) ?_
              try go_wp2
              go_ret
              exact ⟨by first | rfl | (simp [errW_none, errW_some] <;> rfl) | (simp [*, errW_none, errW_some] <;> rfl), by repeat (first | (with_reducible first | exact HB.out | apply below_alloc | apply pw_below_drewN | apply below_drew1 | refine below_set ?_ GE292.out | refine below_set ?_ GE344.out | refine below_set ?_ GE350.out) | exact HB.out)⟩
            · rw [if_neg c82] at H
              have c82b0 : (t351 == t345 && (t352 == t346 && (t353 == t347 && (t354.toList == t348.toList)))) = false := by simpa using c82
              (try (have c82b1 : decide (t351 = t345 && (t352 == t346 && (t353 == t347 && (t354.toList == t348.toList)))) = false := by simpa using c82))
              (try (have c82b2 : (t351 == t345 && (t352 == t346 && (t353 == t347 && (t354.toList == t348.toList)))) = false := by simpa using c82))
              (try (have c82b3 : ¬ (t351 = t345 && (t352 == t346 && (t353 == t347 && (t354.toList == t348.toList)))) := by simpa using c82))
              clear c82
              exact absurd ((Option.some.inj H).trans hr_) (by decide)
  · replace c7 := Bool.eq_false_iff.mpr c7
    subst c7
    have H1 : (some false) = some r := by rw [if_neg (show ¬ (false = true) by decide)] at H; exact H
    clear H
    have H := H1
    clear H1
    exact absurd ((Option.some.inj H).trans hr_) (by decide)

/-- THE ONE PURE STATEMENT of weighbridgelaw07_IcmpParses: yours. -/
def weighbridgelaw07_IcmpParses.Pure : Prop := ∀ (a0 : ByteArray) (a1_0 : Int) (a1_1 : Int) (a1_2 : Int) (a1_3 : ByteArray) (a2 : Bool) (a3 : Int) (a4 : Int), a0.size ≤ 140737488351232 → (Lit.int .i64 a1_0).wf = true → (Lit.int .i64 a1_1).wf = true → (Lit.int .u32 a1_2).wf = true → a1_3.size ≤ 140737488351232 → (Lit.int .i64 a3).wf = true → (Lit.int .u8 a4).wf = true → ∃ k, weighbridgelaw07_IcmpParses.f k a0 a1_0 a1_1 a1_2 a1_3 a2 a3 a4 = some true
theorem weighbridgelaw07_IcmpParses.walk (P : weighbridgelaw07_IcmpParses.Pure) (a0 : ByteArray) (a1_0 : Int) (a1_1 : Int) (a1_2 : Int) (a1_3 : ByteArray) (a2 : Bool) (a3 : Int) (a4 : Int) (w : World) (w0 : a0.size ≤ 140737488351232) (w1_0 : (Lit.int .i64 a1_0).wf = true) (w1_1 : (Lit.int .i64 a1_1).wf = true) (w1_2 : (Lit.int .u32 a1_2).wf = true) (w1_3 : a1_3.size ≤ 140737488351232) (w3 : (Lit.int .i64 a3).wf = true) (w4 : (Lit.int .u8 a4).wf = true) :
    Calls Try.prog 10 #[.string a0, .agg #[.int .i64 a1_0, .int .i64 a1_1, .int .u32 a1_2, .string a1_3], .bool a2, .int .i64 a3, .int .u8 a4] w fun e w' => e = .returned (.bool true) ∧ Below w.heap.size w w' := by
  obtain ⟨k, h⟩ := P a0 a1_0 a1_1 a1_2 a1_3 a2 a3 a4 w0 w1_0 w1_1 w1_2 w1_3 w3 w4
  refine (weighbridgelaw07_IcmpParses.calls k a0 a1_0 a1_1 a1_2 a1_3 a2 a3 a4 true w h rfl).mono ?_
  rintro e w' ⟨rfl, hd⟩
  exact ⟨rfl, hd⟩
def weighbridgelaw07_IcmpParses.PureU : Prop := ∀ (a0 : ByteArray) (a1_0 : Int) (a1_1 : Int) (a1_2 : Int) (a1_3 : ByteArray) (a2 : Bool) (a3 : Int) (a4 : Int), a0.size ≤ 1048576 → (Lit.int .i64 a1_0).wf = true → (Lit.int .i64 a1_1).wf = true → (Lit.int .u32 a1_2).wf = true → a1_3.size ≤ 1048576 → (Lit.int .i64 a3).wf = true → (Lit.int .u8 a4).wf = true → ∃ k, weighbridgelaw07_IcmpParses.f k a0 a1_0 a1_1 a1_2 a1_3 a2 a3 a4 = some true
theorem weighbridgelaw07_IcmpParses.walkU (P : weighbridgelaw07_IcmpParses.PureU) (a0 : ByteArray) (a1_0 : Int) (a1_1 : Int) (a1_2 : Int) (a1_3 : ByteArray) (a2 : Bool) (a3 : Int) (a4 : Int) (w : World) (w0 : a0.size ≤ 1048576) (w1_0 : (Lit.int .i64 a1_0).wf = true) (w1_1 : (Lit.int .i64 a1_1).wf = true) (w1_2 : (Lit.int .u32 a1_2).wf = true) (w1_3 : a1_3.size ≤ 1048576) (w3 : (Lit.int .i64 a3).wf = true) (w4 : (Lit.int .u8 a4).wf = true) :
    Calls Try.prog 10 #[.string a0, .agg #[.int .i64 a1_0, .int .i64 a1_1, .int .u32 a1_2, .string a1_3], .bool a2, .int .i64 a3, .int .u8 a4] w fun e w' => e = .returned (.bool true) ∧ Below w.heap.size w w' := by
  obtain ⟨k, h⟩ := P a0 a1_0 a1_1 a1_2 a1_3 a2 a3 a4 w0 w1_0 w1_1 w1_2 w1_3 w3 w4
  refine (weighbridgelaw07_IcmpParses.calls k a0 a1_0 a1_1 a1_2 a1_3 a2 a3 a4 true w h rfl).mono ?_
  rintro e w' ⟨rfl, hd⟩
  exact ⟨rfl, hd⟩

end Go.Proofs.Ythmpmladneiegaa.Pr
