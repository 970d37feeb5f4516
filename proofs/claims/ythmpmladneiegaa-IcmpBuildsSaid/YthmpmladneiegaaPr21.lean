-- Written by a program of the session (wip/tools) out of the translation, over the kit's print; with pieces of the session's own.
import Derived.Test.YthmpmladneiegaaPr0
import Derived.Test.YthmpmladneiegaaPr16
import Derived.Test.YthmpmladneiegaaPr18
import Derived.Test.YthmpmladneiegaaPr20
namespace Go.Proofs.Ythmpmladneiegaa.Pr
open Go.RowKit Go.Proofs.YthmpmladneiegaaW.PrintWords Go.Proofs.YthmpmladneiegaaW.PrintLast Go.Proofs.YthmpmladneiegaaW.PrintMore
attribute [local go_sem] max2_int min2_int max_two min_two max_three min_three max_four min_four   -- for this text's walks alone
set_option linter.unusedVariables false
set_option linter.unusedSimpArgs false
open Go.Proofs.Ythmpmladneiegaa.Sp
/-! ### weighbridgelaw07_IcmpBuilds: function 9 -/
def weighbridgelaw07_IcmpBuilds.f (a0_0 : Int) (a0_1 : Int) (a0_2 : Int) (a0_3 : ByteArray) (a1 : Int) : Option (Bool) := (weighbridgelaw07_examples.f).bind fun t269 => (if t269 = true then ((icmp_Build.f a0_0 a0_1 a0_2 a0_3).bind fun bt270 => ((weighbridgelaw07_ref.f a0_0 a0_1 a0_2 a0_3).bind fun bt272 => ((weighbridgeref07_Build.f bt272.1 bt272.2.1 bt272.2.2.1 bt272.2.2.2).bind fun bt276 => ((icmp_MTU.f a0_0 a0_1 a0_2 a0_3).bind fun bt278 => ((weighbridgelaw07_ref.f a0_0 a0_1 a0_2 a0_3).bind fun bt280 => ((weighbridgeref07_MTU.f bt280.1 bt280.2.1 bt280.2.2.1 bt280.2.2.2).bind fun bt284 => (if bt270.1.toList = bt276.1.toList then (if bt270.2 = bt276.2 then (if bt278.1 = bt284.1 then (if (bt278.2 == bt284.2) = true then ((icmp_Error.f a1).bind fun t286 => ((weighbridgeref07_Error.f a1).bind fun t287 => (some (t286 == t287)))) else (some false)) else (some false)) else (some false)) else (some false)))))))) else (some false))
set_option maxHeartbeats 8000000 in
set_option maxRecDepth 100000 in
theorem weighbridgelaw07_IcmpBuilds.calls (a0_0 : Int) (a0_1 : Int) (a0_2 : Int) (a0_3 : ByteArray) (a1 : Int) (r : Bool) (w : World) (h : weighbridgelaw07_IcmpBuilds.f a0_0 a0_1 a0_2 a0_3 a1 = some r) (hr_ : r = true) :
    Calls Try.prog 9 #[.agg #[.int .i64 a0_0, .int .i64 a0_1, .int .u32 a0_2, .string a0_3], .int .i64 a1] w fun e w' => e = .returned (.bool r) ∧ Below w.heap.size w w' := by
  have hu45 := Try.underlying45
  have HB := Aside0.mk (Below.refl w.heap.size w)
  have H : ((weighbridgelaw07_examples.f).bind fun t269 => (if t269 = true then ((icmp_Build.f a0_0 a0_1 a0_2 a0_3).bind fun bt270 => ((weighbridgelaw07_ref.f a0_0 a0_1 a0_2 a0_3).bind fun bt272 => ((weighbridgeref07_Build.f bt272.1 bt272.2.1 bt272.2.2.1 bt272.2.2.2).bind fun bt276 => ((icmp_MTU.f a0_0 a0_1 a0_2 a0_3).bind fun bt278 => ((weighbridgelaw07_ref.f a0_0 a0_1 a0_2 a0_3).bind fun bt280 => ((weighbridgeref07_MTU.f bt280.1 bt280.2.1 bt280.2.2.1 bt280.2.2.2).bind fun bt284 => (if bt270.1.toList = bt276.1.toList then (if bt270.2 = bt276.2 then (if bt278.1 = bt284.1 then (if (bt278.2 == bt284.2) = true then ((icmp_Error.f a1).bind fun t286 => ((weighbridgeref07_Error.f a1).bind fun t287 => (some (t286 == t287)))) else (some false)) else (some false)) else (some false)) else (some false)))))))) else (some false))) = some r := h
  clear h
  replace H := Option.bind_eq_some_iff.mp H
  obtain ⟨t269, A30, H⟩ := H
  replace H : (if t269 = true then ((icmp_Build.f a0_0 a0_1 a0_2 a0_3).bind fun bt270 => ((weighbridgelaw07_ref.f a0_0 a0_1 a0_2 a0_3).bind fun bt272 => ((weighbridgeref07_Build.f bt272.1 bt272.2.1 bt272.2.2.1 bt272.2.2.2).bind fun bt276 => ((icmp_MTU.f a0_0 a0_1 a0_2 a0_3).bind fun bt278 => ((weighbridgelaw07_ref.f a0_0 a0_1 a0_2 a0_3).bind fun bt280 => ((weighbridgeref07_MTU.f bt280.1 bt280.2.1 bt280.2.2.1 bt280.2.2.2).bind fun bt284 => (if bt270.1.toList = bt276.1.toList then (if bt270.2 = bt276.2 then (if bt278.1 = bt284.1 then (if (bt278.2 == bt284.2) = true then ((icmp_Error.f a1).bind fun t286 => ((weighbridgeref07_Error.f a1).bind fun t287 => (some (t286 == t287)))) else (some false)) else (some false)) else (some false)) else (some false)))))))) else (some false)) = some r := H
  have A3 := Aside0.mk A30
  clear A30
  by_cases c4 : t269 = true
  · subst c4
    have H1 : ((icmp_Build.f a0_0 a0_1 a0_2 a0_3).bind fun bt270 => ((weighbridgelaw07_ref.f a0_0 a0_1 a0_2 a0_3).bind fun bt272 => ((weighbridgeref07_Build.f bt272.1 bt272.2.1 bt272.2.2.1 bt272.2.2.2).bind fun bt276 => ((icmp_MTU.f a0_0 a0_1 a0_2 a0_3).bind fun bt278 => ((weighbridgelaw07_ref.f a0_0 a0_1 a0_2 a0_3).bind fun bt280 => ((weighbridgeref07_MTU.f bt280.1 bt280.2.1 bt280.2.2.1 bt280.2.2.2).bind fun bt284 => (if bt270.1.toList = bt276.1.toList then (if bt270.2 = bt276.2 then (if bt278.1 = bt284.1 then (if (bt278.2 == bt284.2) = true then ((icmp_Error.f a1).bind fun t286 => ((weighbridgeref07_Error.f a1).bind fun t287 => (some (t286 == t287)))) else (some false)) else (some false)) else (some false)) else (some false)))))))) = some r := by rw [if_pos rfl] at H; exact H
    clear H
    have H := H1
    clear H1
    replace H := Option.bind_eq_some_iff.mp H
    obtain ⟨⟨t270, t271⟩, A50, H⟩ := H
    replace H : ((weighbridgelaw07_ref.f a0_0 a0_1 a0_2 a0_3).bind fun bt272 => ((weighbridgeref07_Build.f bt272.1 bt272.2.1 bt272.2.2.1 bt272.2.2.2).bind fun bt276 => ((icmp_MTU.f a0_0 a0_1 a0_2 a0_3).bind fun bt278 => ((weighbridgelaw07_ref.f a0_0 a0_1 a0_2 a0_3).bind fun bt280 => ((weighbridgeref07_MTU.f bt280.1 bt280.2.1 bt280.2.2.1 bt280.2.2.2).bind fun bt284 => (if t270.toList = bt276.1.toList then (if t271 = bt276.2 then (if bt278.1 = bt284.1 then (if (bt278.2 == bt284.2) = true then ((icmp_Error.f a1).bind fun t286 => ((weighbridgeref07_Error.f a1).bind fun t287 => (some (t286 == t287)))) else (some false)) else (some false)) else (some false)) else (some false))))))) = some r := H
    have A5 := Aside0.mk A50
    clear A50
    replace H := Option.bind_eq_some_iff.mp H
    obtain ⟨⟨t272, t273, t274, t275⟩, A60, H⟩ := H
    replace H : ((weighbridgeref07_Build.f t272 t273 t274 t275).bind fun bt276 => ((icmp_MTU.f a0_0 a0_1 a0_2 a0_3).bind fun bt278 => ((weighbridgelaw07_ref.f a0_0 a0_1 a0_2 a0_3).bind fun bt280 => ((weighbridgeref07_MTU.f bt280.1 bt280.2.1 bt280.2.2.1 bt280.2.2.2).bind fun bt284 => (if t270.toList = bt276.1.toList then (if t271 = bt276.2 then (if bt278.1 = bt284.1 then (if (bt278.2 == bt284.2) = true then ((icmp_Error.f a1).bind fun t286 => ((weighbridgeref07_Error.f a1).bind fun t287 => (some (t286 == t287)))) else (some false)) else (some false)) else (some false)) else (some false)))))) = some r := H
    have A6 := Aside0.mk A60
    clear A60
    replace H := Option.bind_eq_some_iff.mp H
    obtain ⟨⟨t276, t277⟩, A70, H⟩ := H
    replace H : ((icmp_MTU.f a0_0 a0_1 a0_2 a0_3).bind fun bt278 => ((weighbridgelaw07_ref.f a0_0 a0_1 a0_2 a0_3).bind fun bt280 => ((weighbridgeref07_MTU.f bt280.1 bt280.2.1 bt280.2.2.1 bt280.2.2.2).bind fun bt284 => (if t270.toList = t276.toList then (if t271 = t277 then (if bt278.1 = bt284.1 then (if (bt278.2 == bt284.2) = true then ((icmp_Error.f a1).bind fun t286 => ((weighbridgeref07_Error.f a1).bind fun t287 => (some (t286 == t287)))) else (some false)) else (some false)) else (some false)) else (some false))))) = some r := H
    have A7 := Aside0.mk A70
    clear A70
    replace H := Option.bind_eq_some_iff.mp H
    obtain ⟨⟨t278, t279⟩, A80, H⟩ := H
    replace H : ((weighbridgelaw07_ref.f a0_0 a0_1 a0_2 a0_3).bind fun bt280 => ((weighbridgeref07_MTU.f bt280.1 bt280.2.1 bt280.2.2.1 bt280.2.2.2).bind fun bt284 => (if t270.toList = t276.toList then (if t271 = t277 then (if t278 = bt284.1 then (if (t279 == bt284.2) = true then ((icmp_Error.f a1).bind fun t286 => ((weighbridgeref07_Error.f a1).bind fun t287 => (some (t286 == t287)))) else (some false)) else (some false)) else (some false)) else (some false)))) = some r := H
    have A8 := Aside0.mk A80
    clear A80
    replace H := Option.bind_eq_some_iff.mp H
    obtain ⟨⟨t280, t281, t282, t283⟩, A90, H⟩ := H
    replace H : ((weighbridgeref07_MTU.f t280 t281 t282 t283).bind fun bt284 => (if t270.toList = t276.toList then (if t271 = t277 then (if t278 = bt284.1 then (if (t279 == bt284.2) = true then ((icmp_Error.f a1).bind fun t286 => ((weighbridgeref07_Error.f a1).bind fun t287 => (some (t286 == t287)))) else (some false)) else (some false)) else (some false)) else (some false))) = some r := H
    have A9 := Aside0.mk A90
    clear A90
    replace H := Option.bind_eq_some_iff.mp H
    obtain ⟨⟨t284, t285⟩, A100, H⟩ := H
    replace H : (if t270.toList = t276.toList then (if t271 = t277 then (if t278 = t284 then (if (t279 == t285) = true then ((icmp_Error.f a1).bind fun t286 => ((weighbridgeref07_Error.f a1).bind fun t287 => (some (t286 == t287)))) else (some false)) else (some false)) else (some false)) else (some false)) = some r := H
    have A10 := Aside0.mk A100
    clear A100
    by_cases c11 : t270.toList = t276.toList
    · rw [if_pos c11] at H
      have c11b0 : (t270.toList == t276.toList) = true := beq_iff_eq.mpr c11
      have c11b1 : (t270.toList != t276.toList) = false := bne_eq_false_iff_eq.mpr c11
      clear c11
      by_cases c12 : t271 = t277
      · rw [if_pos c12] at H
        have c12b0 : (t271 == t277) = true := beq_iff_eq.mpr c12
        have c12b1 : (t271 != t277) = false := bne_eq_false_iff_eq.mpr c12
        clear c12
        by_cases c13 : t278 = t284
        · rw [if_pos c13] at H
          have c13b0 : (t278 == t284) = true := beq_iff_eq.mpr c13
          have c13b1 : (t278 != t284) = false := bne_eq_false_iff_eq.mpr c13
          clear c13
          by_cases c14 : (t279 == t285) = true
          · rw [if_pos c14] at H
            have c14b0 : (t279 == t285) = true := c14
            (try (have c14b1 : decide (t279 = t285) = true := by simpa using c14))
            (try (have c14b2 : (t279 == t285) = true := by simpa using c14))
            clear c14
            replace H := Option.bind_eq_some_iff.mp H
            obtain ⟨t286, A150, H⟩ := H
            replace H : ((weighbridgeref07_Error.f a1).bind fun t287 => (some (t286 == t287))) = some r := H
            have A15 := Aside0.mk A150
            clear A150
            replace H := Option.bind_eq_some_iff.mp H
            obtain ⟨t287, A160, H⟩ := H
            replace H : (some (t286 == t287)) = some r := H
            have A16 := Aside0.mk A160
            clear A160
            obtain rfl := Option.some.inj H
            go_enter Try.func9, Try.ntmps9
            go_wp2_with (first | ((with_reducible refine gate_dst (N := 2) rfl ?_); refine box_event ?hg (N := 2) ?hd (cs := #[.int .i64 a0_0, .int .i64 a0_1, .int .u32 a0_2, .string a0_3]) (t := 45) ?hr ?_; (case hd => rfl); (case hg => rfl); (case hr => first | (go_simp; done) | (go_simp; rfl)); intro gb268 hg w17 hbox hb; have n0_ := Aside0.mk (below_step (by repeat (first | (with_reducible first | exact HB.out | apply below_alloc | apply pw_below_drewN | apply below_drew1) | exact HB.out)) hb); have n1_ := Aside0.mk (hbox); have n2_ := Aside0.mk ((by rw [hg]; exact (below_size (by repeat (first | (with_reducible first | exact HB.out | apply below_alloc | apply pw_below_drewN | apply below_drew1) | exact HB.out))) : w.heap.size ≤ gb268)); have n3_ := Aside0.mk ((by rw [hg]; exact (below_size (by repeat (first | (with_reducible first | exact HB.out | apply below_alloc | apply pw_below_drewN | apply below_drew1) | exact HB.out))) : w.heap.size ≤ gb268)); clear HB; have HB := n0_; have BK268 := n1_; have GW268 := n2_; have GE268 := n3_; clear n0_ n1_ n2_ n3_; clear hb hbox hg) | ((with_reducible refine gate_callee (f := 21) rfl ?_); refine goesL_ (some 14) rfl rfl Try.func21 (by kernel_rfl) rfl #[] rfl (by (try simp only [List.map_toArray, List.map_cons, List.map_nil]); first | done | rfl | (simp only [List.length_drop, List.length_take]; rfl)) ?_; (with_reducible refine (weighbridgelaw07_examples.calls  true _ A3.out).mono ?_); rintro e w18 ⟨rfl, hb⟩; (try clear A3); refine ⟨_, rfl, ?_⟩; have n0_ := Aside0.mk (blk_below (g := gb268) (o := .cells #[.int .i64 a0_0, .int .i64 a0_1, .int .u32 a0_2, .string a0_3] 45 (0, 0)) (by (with_reducible repeat (first | refine blk_drewN ?_ _ | refine blk_drew ?_ | refine blk_alloc ?_ _)); exact BK268.out) hb); have n1_ := Aside0.mk (below_step (by repeat (first | (with_reducible first | exact HB.out | apply below_alloc | apply pw_below_drewN | apply below_drew1 | refine below_set ?_ GE268.out) | exact HB.out)) hb); clear BK268; clear HB; have BK268 := n0_; have HB := n1_; clear n0_ n1_; (try clear hb); (try clear hb2); (try clear hk); (try clear hi); have hcz19_0 : w18.cell? ⟨gb268, 0, none⟩ = some (.int .i64 a0_0) := (blk_cell BK268.out 0).trans rfl; have hcz19_1 : w18.cell? ⟨gb268, 1, none⟩ = some (.int .i64 a0_1) := (blk_cell BK268.out 1).trans rfl; have hcz19_2 : w18.cell? ⟨gb268, 2, none⟩ = some (.int .u32 a0_2) := (blk_cell BK268.out 2).trans rfl; have hcz19_3 : w18.cell? ⟨gb268, 3, none⟩ = some (.string a0_3) := (blk_cell BK268.out 3).trans rfl; have hfz19_0 := blk_frozen BK268.out 0; have hfz19_1 := blk_frozen BK268.out 1; have hfz19_2 := blk_frozen BK268.out 2; have hfz19_3 := blk_frozen BK268.out 3) | ((with_reducible refine gate_callee (f := 22) rfl ?_); refine goesL_ (some 19) rfl rfl Try.func22 (by kernel_rfl) rfl #[.agg #[.int .i64 a0_0, .int .i64 a0_1, .int .u32 a0_2, .string a0_3]] rfl (by (try simp only [List.map_toArray, List.map_cons, List.map_nil]); first | done | rfl | (simp only [List.length_drop, List.length_take]; rfl)) ?_; (with_reducible refine (icmp_Build.calls a0_0 a0_1 a0_2 a0_3 t270 t271 _ A5.out).mono ?_); rintro e w20 ⟨rfl, hb⟩; (try clear A5); refine ⟨_, rfl, ?_⟩; have n0_ := Aside0.mk (blk_below (g := gb268) (o := .cells #[.int .i64 a0_0, .int .i64 a0_1, .int .u32 a0_2, .string a0_3] 45 (0, 0)) (by (with_reducible repeat (first | refine blk_drewN ?_ _ | refine blk_drew ?_ | refine blk_alloc ?_ _)); exact BK268.out) hb); have n1_ := Aside0.mk (below_step (by repeat (first | (with_reducible first | exact HB.out | apply below_alloc | apply pw_below_drewN | apply below_drew1 | refine below_set ?_ GE268.out) | exact HB.out)) hb); clear BK268; clear HB; have BK268 := n0_; have HB := n1_; clear n0_ n1_; (try clear hb); (try clear hb2); (try clear hk); (try clear hi); have hcz21_0 : w20.cell? ⟨gb268, 0, none⟩ = some (.int .i64 a0_0) := (blk_cell BK268.out 0).trans rfl; have hcz21_1 : w20.cell? ⟨gb268, 1, none⟩ = some (.int .i64 a0_1) := (blk_cell BK268.out 1).trans rfl; have hcz21_2 : w20.cell? ⟨gb268, 2, none⟩ = some (.int .u32 a0_2) := (blk_cell BK268.out 2).trans rfl; have hcz21_3 : w20.cell? ⟨gb268, 3, none⟩ = some (.string a0_3) := (blk_cell BK268.out 3).trans rfl; have hfz21_0 := blk_frozen BK268.out 0; have hfz21_1 := blk_frozen BK268.out 1; have hfz21_2 := blk_frozen BK268.out 2; have hfz21_3 := blk_frozen BK268.out 3) | ((with_reducible refine gate_callee (f := 24) rfl ?_); refine goesL_ (some 24) rfl rfl Try.func24 (by kernel_rfl) rfl #[.agg #[.int .i64 a0_0, .int .i64 a0_1, .int .u32 a0_2, .string a0_3]] rfl (by (try simp only [List.map_toArray, List.map_cons, List.map_nil]); first | done | rfl | (simp only [List.length_drop, List.length_take]; rfl)) ?_; (with_reducible refine (weighbridgelaw07_ref.calls a0_0 a0_1 a0_2 a0_3 t272 t273 t274 t275 _ A6.out).mono ?_); rintro e w22 ⟨rfl, hb⟩; (try clear A6); refine ⟨_, rfl, ?_⟩; have n0_ := Aside0.mk (blk_below (g := gb268) (o := .cells #[.int .i64 a0_0, .int .i64 a0_1, .int .u32 a0_2, .string a0_3] 45 (0, 0)) (by (with_reducible repeat (first | refine blk_drewN ?_ _ | refine blk_drew ?_ | refine blk_alloc ?_ _)); exact BK268.out) hb); have n1_ := Aside0.mk (below_step (by repeat (first | (with_reducible first | exact HB.out | apply below_alloc | apply pw_below_drewN | apply below_drew1 | refine below_set ?_ GE268.out) | exact HB.out)) hb); clear BK268; clear HB; have BK268 := n0_; have HB := n1_; clear n0_ n1_; (try clear hb); (try clear hb2); (try clear hk); (try clear hi)) | ((with_reducible refine gate_callee (f := 23) rfl ?_); refine goesL_ (some 25) rfl rfl Try.func23 (by kernel_rfl) rfl #[.agg #[.int .i64 t272, .int .i64 t273, .int .u32 t274, .string t275]] rfl (by (try simp only [List.map_toArray, List.map_cons, List.map_nil]); first | done | rfl | (simp only [List.length_drop, List.length_take]; rfl)) ?_; (with_reducible refine (weighbridgeref07_Build.calls t272 t273 t274 t275 t276 t277 _ A7.out).mono ?_); rintro e w23 ⟨rfl, hb⟩; (try clear A7); refine ⟨_, rfl, ?_⟩; have n0_ := Aside0.mk (blk_below (g := gb268) (o := .cells #[.int .i64 a0_0, .int .i64 a0_1, .int .u32 a0_2, .string a0_3] 45 (0, 0)) (by (with_reducible repeat (first | refine blk_drewN ?_ _ | refine blk_drew ?_ | refine blk_alloc ?_ _)); exact BK268.out) hb); have n1_ := Aside0.mk (below_step (by repeat (first | (with_reducible first | exact HB.out | apply below_alloc | apply pw_below_drewN | apply below_drew1 | refine below_set ?_ GE268.out) | exact HB.out)) hb); clear BK268; clear HB; have BK268 := n0_; have HB := n1_; clear n0_ n1_; (try clear hb); (try clear hb2); (try clear hk); (try clear hi); have hcz24_0 : w23.cell? ⟨gb268, 0, none⟩ = some (.int .i64 a0_0) := (blk_cell BK268.out 0).trans rfl; have hcz24_1 : w23.cell? ⟨gb268, 1, none⟩ = some (.int .i64 a0_1) := (blk_cell BK268.out 1).trans rfl; have hcz24_2 : w23.cell? ⟨gb268, 2, none⟩ = some (.int .u32 a0_2) := (blk_cell BK268.out 2).trans rfl; have hcz24_3 : w23.cell? ⟨gb268, 3, none⟩ = some (.string a0_3) := (blk_cell BK268.out 3).trans rfl; have hfz24_0 := blk_frozen BK268.out 0; have hfz24_1 := blk_frozen BK268.out 1; have hfz24_2 := blk_frozen BK268.out 2; have hfz24_3 := blk_frozen BK268.out 3) | ((with_reducible refine gate_callee (f := 25) rfl ?_); refine goesL_ (some 30) rfl rfl Try.func25 (by kernel_rfl) rfl #[.agg #[.int .i64 a0_0, .int .i64 a0_1, .int .u32 a0_2, .string a0_3]] rfl (by (try simp only [List.map_toArray, List.map_cons, List.map_nil]); first | done | rfl | (simp only [List.length_drop, List.length_take]; rfl)) ?_; (with_reducible refine (icmp_MTU.calls a0_0 a0_1 a0_2 a0_3 t278 t279 _ A8.out).mono ?_); rintro e w25 ⟨rfl, hb⟩; (try clear A8); refine ⟨_, rfl, ?_⟩; have n0_ := Aside0.mk (blk_below (g := gb268) (o := .cells #[.int .i64 a0_0, .int .i64 a0_1, .int .u32 a0_2, .string a0_3] 45 (0, 0)) (by (with_reducible repeat (first | refine blk_drewN ?_ _ | refine blk_drew ?_ | refine blk_alloc ?_ _)); exact BK268.out) hb); have n1_ := Aside0.mk (below_step (by repeat (first | (with_reducible first | exact HB.out | apply below_alloc | apply pw_below_drewN | apply below_drew1 | refine below_set ?_ GE268.out) | exact HB.out)) hb); clear BK268; clear HB; have BK268 := n0_; have HB := n1_; clear n0_ n1_; (try clear hb); (try clear hb2); (try clear hk); (try clear hi); have hcz26_0 : w25.cell? ⟨gb268, 0, none⟩ = some (.int .i64 a0_0) := (blk_cell BK268.out 0).trans rfl; have hcz26_1 : w25.cell? ⟨gb268, 1, none⟩ = some (.int .i64 a0_1) := (blk_cell BK268.out 1).trans rfl; have hcz26_2 : w25.cell? ⟨gb268, 2, none⟩ = some (.int .u32 a0_2) := (blk_cell BK268.out 2).trans rfl; have hcz26_3 : w25.cell? ⟨gb268, 3, none⟩ = some (.string a0_3) := (blk_cell BK268.out 3).trans rfl; have hfz26_0 := blk_frozen BK268.out 0; have hfz26_1 := blk_frozen BK268.out 1; have hfz26_2 := blk_frozen BK268.out 2; have hfz26_3 := blk_frozen BK268.out 3) | ((with_reducible refine gate_callee (f := 24) rfl ?_); refine goesL_ (some 35) rfl rfl Try.func24 (by kernel_rfl) rfl #[.agg #[.int .i64 a0_0, .int .i64 a0_1, .int .u32 a0_2, .string a0_3]] rfl (by (try simp only [List.map_toArray, List.map_cons, List.map_nil]); first | done | rfl | (simp only [List.length_drop, List.length_take]; rfl)) ?_; (with_reducible refine (weighbridgelaw07_ref.calls a0_0 a0_1 a0_2 a0_3 t280 t281 t282 t283 _ A9.out).mono ?_); rintro e w27 ⟨rfl, hb⟩; (try clear A9); refine ⟨_, rfl, ?_⟩; have n0_ := Aside0.mk (blk_below (g := gb268) (o := .cells #[.int .i64 a0_0, .int .i64 a0_1, .int .u32 a0_2, .string a0_3] 45 (0, 0)) (by (with_reducible repeat (first | refine blk_drewN ?_ _ | refine blk_drew ?_ | refine blk_alloc ?_ _)); exact BK268.out) hb); have n1_ := Aside0.mk (below_step (by repeat (first | (with_reducible first | exact HB.out | apply below_alloc | apply pw_below_drewN | apply below_drew1 | refine below_set ?_ GE268.out) | exact HB.out)) hb); clear BK268; clear HB; have BK268 := n0_; have HB := n1_; clear n0_ n1_; (try clear hb); (try clear hb2); (try clear hk); (try clear hi)) | ((with_reducible refine gate_callee (f := 26) rfl ?_); refine goesL_ (some 36) rfl rfl Try.func26 (by kernel_rfl) rfl #[.agg #[.int .i64 t280, .int .i64 t281, .int .u32 t282, .string t283]] rfl (by (try simp only [List.map_toArray, List.map_cons, List.map_nil]); first | done | rfl | (simp only [List.length_drop, List.length_take]; rfl)) ?_; (with_reducible refine (weighbridgeref07_MTU.calls t280 t281 t282 t283 t284 t285 _ A10.out).mono ?_); rintro e w28 ⟨rfl, hb⟩; (try clear A10); refine ⟨_, rfl, ?_⟩; have n0_ := Aside0.mk (blk_below (g := gb268) (o := .cells #[.int .i64 a0_0, .int .i64 a0_1, .int .u32 a0_2, .string a0_3] 45 (0, 0)) (by (with_reducible repeat (first | refine blk_drewN ?_ _ | refine blk_drew ?_ | refine blk_alloc ?_ _)); exact BK268.out) hb); have n1_ := Aside0.mk (below_step (by repeat (first | (with_reducible first | exact HB.out | apply below_alloc | apply pw_below_drewN | apply below_drew1 | refine below_set ?_ GE268.out) | exact HB.out)) hb); clear BK268; clear HB; have BK268 := n0_; have HB := n1_; clear n0_ n1_; (try clear hb); (try clear hb2); (try clear hk); (try clear hi)) | (go_at_call 27; (with_reducible refine (icmp_Error.calls a1 t286 _ A15.out).mono ?_); rintro e w' ⟨rfl, ⟨nd, rfl⟩⟩) | (go_at_call 28; (with_reducible refine (weighbridgeref07_Error.calls a1 t287 _ A16.out).mono ?_); rintro e w' ⟨rfl, ⟨nd, rfl⟩⟩))
            go_ret
            exact ⟨by first | rfl | (simp [errW_none, errW_some] <;> rfl) | (simp [*, errW_none, errW_some] <;> rfl), by repeat (first | (with_reducible first | exact HB.out | apply below_alloc | apply pw_below_drewN | apply below_drew1 | refine below_set ?_ GE268.out) | exact HB.out)⟩
          · rw [if_neg c14] at H
            have c14b0 : (t279 == t285) = false := by simpa using c14
            (try (have c14b1 : decide (t279 = t285) = false := by simpa using c14))
            (try (have c14b2 : (t279 == t285) = false := by simpa using c14))
            (try (have c14b3 : ¬ (t279 = t285) := by simpa using c14))
            clear c14
            exact absurd ((Option.some.inj H).trans hr_) (by decide)
        · rw [if_neg c13] at H
          have c13b0 : (t278 == t284) = false := beq_eq_false_iff_ne.mpr c13
          have c13b1 : (t278 != t284) = true := bne_iff_ne.mpr c13
          exact absurd ((Option.some.inj H).trans hr_) (by decide)
      · rw [if_neg c12] at H
        have c12b0 : (t271 == t277) = false := beq_eq_false_iff_ne.mpr c12
        have c12b1 : (t271 != t277) = true := bne_iff_ne.mpr c12
        exact absurd ((Option.some.inj H).trans hr_) (by decide)
    · rw [if_neg c11] at H
      have c11b0 : (t270.toList == t276.toList) = false := beq_eq_false_iff_ne.mpr c11
      have c11b1 : (t270.toList != t276.toList) = true := bne_iff_ne.mpr c11
      exact absurd ((Option.some.inj H).trans hr_) (by decide)
  · replace c4 := Bool.eq_false_iff.mpr c4
    subst c4
    have H1 : (some false) = some r := by rw [if_neg (show ¬ (false = true) by decide)] at H; exact H
    clear H
    have H := H1
    clear H1
    exact absurd ((Option.some.inj H).trans hr_) (by decide)

/-- THE ONE PURE STATEMENT of weighbridgelaw07_IcmpBuilds: yours. -/
def weighbridgelaw07_IcmpBuilds.Pure : Prop := ∀ (a0_0 : Int) (a0_1 : Int) (a0_2 : Int) (a0_3 : ByteArray) (a1 : Int), (Lit.int .i64 a0_0).wf = true → (Lit.int .i64 a0_1).wf = true → (Lit.int .u32 a0_2).wf = true → a0_3.size ≤ 140737488351232 → (Lit.int .i64 a1).wf = true → weighbridgelaw07_IcmpBuilds.f a0_0 a0_1 a0_2 a0_3 a1 = some true
theorem weighbridgelaw07_IcmpBuilds.walk (P : weighbridgelaw07_IcmpBuilds.Pure) (a0_0 : Int) (a0_1 : Int) (a0_2 : Int) (a0_3 : ByteArray) (a1 : Int) (w : World) (w0_0 : (Lit.int .i64 a0_0).wf = true) (w0_1 : (Lit.int .i64 a0_1).wf = true) (w0_2 : (Lit.int .u32 a0_2).wf = true) (w0_3 : a0_3.size ≤ 140737488351232) (w1 : (Lit.int .i64 a1).wf = true) :
    Calls Try.prog 9 #[.agg #[.int .i64 a0_0, .int .i64 a0_1, .int .u32 a0_2, .string a0_3], .int .i64 a1] w fun e w' => e = .returned (.bool true) ∧ Below w.heap.size w w' := by
  have h := P a0_0 a0_1 a0_2 a0_3 a1 w0_0 w0_1 w0_2 w0_3 w1
  refine (weighbridgelaw07_IcmpBuilds.calls a0_0 a0_1 a0_2 a0_3 a1 true w h rfl).mono ?_
  rintro e w' ⟨rfl, hd⟩
  exact ⟨rfl, hd⟩
def weighbridgelaw07_IcmpBuilds.PureU : Prop := ∀ (a0_0 : Int) (a0_1 : Int) (a0_2 : Int) (a0_3 : ByteArray) (a1 : Int), (Lit.int .i64 a0_0).wf = true → (Lit.int .i64 a0_1).wf = true → (Lit.int .u32 a0_2).wf = true → a0_3.size ≤ 1048576 → (Lit.int .i64 a1).wf = true → weighbridgelaw07_IcmpBuilds.f a0_0 a0_1 a0_2 a0_3 a1 = some true
theorem weighbridgelaw07_IcmpBuilds.walkU (P : weighbridgelaw07_IcmpBuilds.PureU) (a0_0 : Int) (a0_1 : Int) (a0_2 : Int) (a0_3 : ByteArray) (a1 : Int) (w : World) (w0_0 : (Lit.int .i64 a0_0).wf = true) (w0_1 : (Lit.int .i64 a0_1).wf = true) (w0_2 : (Lit.int .u32 a0_2).wf = true) (w0_3 : a0_3.size ≤ 1048576) (w1 : (Lit.int .i64 a1).wf = true) :
    Calls Try.prog 9 #[.agg #[.int .i64 a0_0, .int .i64 a0_1, .int .u32 a0_2, .string a0_3], .int .i64 a1] w fun e w' => e = .returned (.bool true) ∧ Below w.heap.size w w' := by
  have h := P a0_0 a0_1 a0_2 a0_3 a1 w0_0 w0_1 w0_2 w0_3 w1
  refine (weighbridgelaw07_IcmpBuilds.calls a0_0 a0_1 a0_2 a0_3 a1 true w h rfl).mono ?_
  rintro e w' ⟨rfl, hd⟩
  exact ⟨rfl, hd⟩

end Go.Proofs.Ythmpmladneiegaa.Pr
