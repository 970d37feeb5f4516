-- Written by a program of the session (wip/tools) out of the translation, over the kit's print; with pieces of the session's own.
import Derived.Test.YthmpmladneiegaaPr0
import Derived.Test.YthmpmladneiegaaPr1
import Derived.Test.YthmpmladneiegaaPr16
import Derived.Test.YthmpmladneiegaaPr18
import Derived.Test.YthmpmladneiegaaPr23
namespace Go.Proofs.Ythmpmladneiegaa.Pr
open Go.RowKit Go.Proofs.YthmpmladneiegaaW.PrintWords Go.Proofs.YthmpmladneiegaaW.PrintLast Go.Proofs.YthmpmladneiegaaW.PrintMore
attribute [local go_sem] max2_int min2_int max_two min_two max_three min_three max_four min_four   -- for this text's walks alone
set_option linter.unusedVariables false
set_option linter.unusedSimpArgs false
open Go.Proofs.Ythmpmladneiegaa.Sp
attribute [local go_sem high] eqA45
/-! ### weighbridgelaw07_IcmpBack: function 11 -/
set_option maxHeartbeats 8000000 in
set_option maxRecDepth 100000 in
theorem weighbridgelaw07_IcmpBack.callsF (k : Nat) (a0 : Int) (a1 : Int) (a2 : Int) (a3 : ByteArray) (a4 : Int) (r : Bool) (w : World) (h : weighbridgelaw07_IcmpBack.f k a0 a1 a2 a3 a4 = some r) (hr_ : r = true) (hc_ : ¬ (a4 < 0)) :
    Calls Try.prog 11 #[.int .u8 a0, .int .u8 a1, .int .u32 a2, .string a3, .int .i64 a4] w fun e w' => e = .returned (.bool r) ∧ Below w.heap.size w w' := by
  have hu45 := Try.underlying45
  have HB := Aside0.mk (Below.refl w.heap.size w)
  have H : ((weighbridgelaw07_examples.f).bind fun t355 => (if t355 = true then (if 0 ≤ (mn (a3.size : Int) 300) then (if (mn (a3.size : Int) 300) ≤ (a3.size : Int) then ((icmp_Build.f (wrap64 (a0)) (wrap64 (a1)) a2 (a3.extract 0 ((mn (a3.size : Int) 300) : Int).toNat)).bind fun bt357 => (if bt357.2 = 0 then (weighbridgelaw07_IcmpBack.j0 k a0 a1 a2 a4 t355 bt357.1 ((bt357.1.size : Int) != (wrap64 (8 + ((a3.extract 0 ((mn (a3.size : Int) 300) : Int).toNat).size : Int)))) (wrap64 (a0)) (wrap64 (a1)) a2 (a3.extract 0 ((mn (a3.size : Int) 300) : Int).toNat)) else (weighbridgelaw07_IcmpBack.j0 k a0 a1 a2 a4 t355 bt357.1 true (wrap64 (a0)) (wrap64 (a1)) a2 (a3.extract 0 ((mn (a3.size : Int) 300) : Int).toNat)))) else (none)) else (none)) else (some false))) = some r := h
  clear h
  replace H := Option.bind_eq_some_iff.mp H
  obtain ⟨t355, A60, H⟩ := H
  replace H : (if t355 = true then (if 0 ≤ (mn (a3.size : Int) 300) then (if (mn (a3.size : Int) 300) ≤ (a3.size : Int) then ((icmp_Build.f (wrap64 (a0)) (wrap64 (a1)) a2 (a3.extract 0 ((mn (a3.size : Int) 300) : Int).toNat)).bind fun bt357 => (if bt357.2 = 0 then (weighbridgelaw07_IcmpBack.j0 k a0 a1 a2 a4 t355 bt357.1 ((bt357.1.size : Int) != (wrap64 (8 + ((a3.extract 0 ((mn (a3.size : Int) 300) : Int).toNat).size : Int)))) (wrap64 (a0)) (wrap64 (a1)) a2 (a3.extract 0 ((mn (a3.size : Int) 300) : Int).toNat)) else (weighbridgelaw07_IcmpBack.j0 k a0 a1 a2 a4 t355 bt357.1 true (wrap64 (a0)) (wrap64 (a1)) a2 (a3.extract 0 ((mn (a3.size : Int) 300) : Int).toNat)))) else (none)) else (none)) else (some false)) = some r := H
  have A6 := Aside0.mk A60
  clear A60
  by_cases c7 : t355 = true
  · subst c7
    have H1 : (if 0 ≤ (mn (a3.size : Int) 300) then (if (mn (a3.size : Int) 300) ≤ (a3.size : Int) then ((icmp_Build.f (wrap64 (a0)) (wrap64 (a1)) a2 (a3.extract 0 ((mn (a3.size : Int) 300) : Int).toNat)).bind fun bt357 => (if bt357.2 = 0 then (weighbridgelaw07_IcmpBack.j0 k a0 a1 a2 a4 true bt357.1 ((bt357.1.size : Int) != (wrap64 (8 + ((a3.extract 0 ((mn (a3.size : Int) 300) : Int).toNat).size : Int)))) (wrap64 (a0)) (wrap64 (a1)) a2 (a3.extract 0 ((mn (a3.size : Int) 300) : Int).toNat)) else (weighbridgelaw07_IcmpBack.j0 k a0 a1 a2 a4 true bt357.1 true (wrap64 (a0)) (wrap64 (a1)) a2 (a3.extract 0 ((mn (a3.size : Int) 300) : Int).toNat)))) else (none)) else (none)) = some r := by rw [if_pos rfl] at H; exact H
    clear H
    have H := H1
    clear H1
    obtain ⟨ji8, hji8⟩ : ∃ j_ : Int, (mn (a3.size : Int) 300) = j_ := ⟨_, rfl⟩
    replace H : (if 0 ≤ (ji8) then (if (ji8) ≤ (a3.size : Int) then ((icmp_Build.f (wrap64 (a0)) (wrap64 (a1)) a2 (a3.extract 0 ((ji8) : Int).toNat)).bind fun bt357 => (if bt357.2 = 0 then (weighbridgelaw07_IcmpBack.j0 k a0 a1 a2 a4 true bt357.1 ((bt357.1.size : Int) != (wrap64 (8 + ((a3.extract 0 ((ji8) : Int).toNat).size : Int)))) (wrap64 (a0)) (wrap64 (a1)) a2 (a3.extract 0 ((ji8) : Int).toNat)) else (weighbridgelaw07_IcmpBack.j0 k a0 a1 a2 a4 true bt357.1 true (wrap64 (a0)) (wrap64 (a1)) a2 (a3.extract 0 ((ji8) : Int).toNat)))) else (none)) else (none)) = some r := by first | (rw [hji8] at H; exact H) | (simp only [hji8] at H ⊢; exact H)
    (try rw [hji8] at A6)
    (try (have hji8h : ji8 ≤ 300 := by (rw [← hji8]; unfold mn; (repeat' split) <;> omega)))
    (try (have hji8g : ji8 ≤ 64 := by omega))
    (try (have hji8l : 0 ≤ ji8 := by (rw [← hji8]; unfold mn; (repeat' split) <;> omega)))
    (try (have hji8m : 0 ≤ ji8 := by omega))
    have hji8_ : (if 300 < (a3.size : Int) then 300 else (a3.size : Int)) = ji8 := hji8
    by_cases c9 : 0 ≤ (ji8)
    · rw [if_pos c9] at H
      have c9b0 := eq_true c9
      have c9b1 : decide (0 ≤ (ji8)) = true := decide_eq_true c9
      clear c9
      by_cases c10 : (ji8) ≤ (a3.size : Int)
      · rw [if_pos c10] at H
        have c10b0 := eq_true c10
        have c10b1 : decide ((ji8) ≤ (a3.size : Int)) = true := decide_eq_true c10
        clear c10
        replace H := Option.bind_eq_some_iff.mp H
        obtain ⟨⟨t357, t358⟩, A110, H⟩ := H
        replace H : (if t358 = 0 then (weighbridgelaw07_IcmpBack.j0 k a0 a1 a2 a4 true t357 ((t357.size : Int) != (wrap64 (8 + ((a3.extract 0 ((ji8) : Int).toNat).size : Int)))) (wrap64 (a0)) (wrap64 (a1)) a2 (a3.extract 0 ((ji8) : Int).toNat)) else (weighbridgelaw07_IcmpBack.j0 k a0 a1 a2 a4 true t357 true (wrap64 (a0)) (wrap64 (a1)) a2 (a3.extract 0 ((ji8) : Int).toNat))) = some r := H
        have A11 := Aside0.mk A110
        clear A110
        have HC12 := Aside0.mk H
        clear H
        go_enter Try.func11, Try.ntmps11
        go_upto_region 6 with (first | ((with_reducible refine gate_callee (f := 21) rfl ?_); refine goesL_ (some 22) rfl rfl Try.func21 (by kernel_rfl) rfl #[] rfl (by (try simp only [List.map_toArray, List.map_cons, List.map_nil]); first | done | rfl | (simp only [List.length_drop, List.length_take]; rfl)) ?_; (with_reducible refine (weighbridgelaw07_examples.calls  true _ A6.out).mono ?_); rintro e w13 ⟨rfl, hb⟩; refine ⟨_, rfl, ?_⟩; have n0_ := Aside0.mk (below_step (by repeat (first | (with_reducible first | exact HB.out | apply below_alloc | apply pw_below_drewN | apply below_drew1) | exact HB.out)) hb); clear HB; have HB := n0_; clear n0_; (try clear hb); (try clear hb2); (try clear hk); (try clear hi)) | ((with_reducible refine gate_dst (N := 12) rfl ?_); (try (refine gate_guard (by rfl) ?_; dsimp only)); refine box_event ?hg (N := 12) ?hd (cs := #[.int .i64 0, .int .i64 0, .int .u32 0, .string (⟨#[]⟩ : ByteArray)]) (t := 45) ?hr ?_; (case hd => rfl); (case hg => rfl); (case hr => first | (go_simp; done) | (go_simp; rfl)); intro gb356 hg w14 hbox hb; have n0_ := Aside0.mk (below_step (by repeat (first | (with_reducible first | exact HB.out | apply below_alloc | apply pw_below_drewN | apply below_drew1) | exact HB.out)) hb); have n1_ := Aside0.mk (hbox); have n2_ := Aside0.mk ((by rw [hg]; exact (below_size (by repeat (first | (with_reducible first | exact HB.out | apply below_alloc | apply pw_below_drewN | apply below_drew1) | exact HB.out))) : w.heap.size ≤ gb356)); have n3_ := Aside0.mk ((by rw [hg]; exact (below_size (by repeat (first | (with_reducible first | exact HB.out | apply below_alloc | apply pw_below_drewN | apply below_drew1) | exact HB.out))) : w.heap.size ≤ gb356)); clear HB; have HB := n0_; have BK356 := n1_; have GW356 := n2_; have GE356 := n3_; clear n0_ n1_ n2_ n3_; clear hb hbox hg; have hcz15_0 : w14.cell? ⟨gb356, 0, none⟩ = some (.int .i64 0) := (blk_cell BK356.out 0).trans rfl; have hcz15_1 : w14.cell? ⟨gb356, 1, none⟩ = some (.int .i64 0) := (blk_cell BK356.out 1).trans rfl; have hcz15_2 : w14.cell? ⟨gb356, 2, none⟩ = some (.int .u32 0) := (blk_cell BK356.out 2).trans rfl; have hcz15_3 : w14.cell? ⟨gb356, 3, none⟩ = some (.string (⟨#[]⟩ : ByteArray)) := (blk_cell BK356.out 3).trans rfl; have hfz15_0 := blk_frozen BK356.out 0; have hfz15_1 := blk_frozen BK356.out 1; have hfz15_2 := blk_frozen BK356.out 2; have hfz15_3 := blk_frozen BK356.out 3) | ((with_reducible refine gate_callee (f := 22) rfl ?_); refine goesL_ (some 38) rfl rfl Try.func22 (by kernel_rfl) rfl #[.agg #[.int .i64 (wrap64 (a0)), .int .i64 (wrap64 (a1)), .int .u32 a2, .string (a3.extract 0 ((ji8) : Int).toNat)]] rfl (by (try simp only [List.map_toArray, List.map_cons, List.map_nil]); first | done | (simp only [hji8]; rfl) | rfl | (simp only [List.length_drop, List.length_take]; rfl)) ?_; (with_reducible refine (icmp_Build.calls (wrap64 (a0)) (wrap64 (a1)) a2 (a3.extract 0 ((ji8) : Int).toNat) t357 t358 _ A11.out).mono ?_); rintro e w16 ⟨rfl, hb⟩; refine ⟨_, rfl, ?_⟩; have n0_ := Aside0.mk (blk_below (g := gb356) (o := .cells #[.int .i64 (wrap64 (a0)), .int .i64 (wrap64 (a1)), .int .u32 a2, .string (a3.extract 0 ((ji8) : Int).toNat)] 45 (0, 0)) (by (with_reducible repeat (first | refine blk_drewN ?_ _ | refine blk_drew ?_ | refine blk_alloc ?_ _)); refine blk_put (cs := #[.int .i64 (wrap64 (a0)), .int .i64 (wrap64 (a1)), .int .u32 a2, .string (⟨#[]⟩ : ByteArray)]) ?_ 3 _ rfl; (with_reducible repeat (first | refine blk_drewN ?_ _ | refine blk_drew ?_ | refine blk_alloc ?_ _)); refine blk_put (cs := #[.int .i64 (wrap64 (a0)), .int .i64 (wrap64 (a1)), .int .u32 0, .string (⟨#[]⟩ : ByteArray)]) ?_ 2 _ rfl; (with_reducible repeat (first | refine blk_drewN ?_ _ | refine blk_drew ?_ | refine blk_alloc ?_ _)); refine blk_put (cs := #[.int .i64 (wrap64 (a0)), .int .i64 0, .int .u32 0, .string (⟨#[]⟩ : ByteArray)]) ?_ 1 _ rfl; (with_reducible repeat (first | refine blk_drewN ?_ _ | refine blk_drew ?_ | refine blk_alloc ?_ _)); refine blk_put (cs := #[.int .i64 0, .int .i64 0, .int .u32 0, .string (⟨#[]⟩ : ByteArray)]) ?_ 0 _ rfl; (with_reducible repeat (first | refine blk_drewN ?_ _ | refine blk_drew ?_ | refine blk_alloc ?_ _)); exact BK356.out) hb); have n1_ := Aside0.mk (below_step (by repeat (first | (with_reducible first | exact HB.out | apply below_alloc | apply pw_below_drewN | apply below_drew1 | refine below_set ?_ GE356.out) | exact HB.out)) hb); clear BK356; clear HB; have BK356 := n0_; have HB := n1_; clear n0_ n1_; (try clear hb); (try clear hb2); (try clear hk); (try clear hi)))
        (try simp only [Act.put, List.setIfInBounds_toArray, List.set_cons_zero, List.set_cons_succ])
        go_cut [51] (fun v51 wc => ∃ (kq : Nat) (x51_11 : Bool), v51 = .bool x51_11 ∧ Aside0 (weighbridgelaw07_IcmpBack.j0 kq a0 a1 a2 a4 true t357 x51_11 (wrap64 (a0)) (wrap64 (a1)) a2 (a3.extract 0 ((ji8) : Int).toNat) = some r) ∧ Aside0 (kq ≤ k) ∧ Aside0 (wc.heap[gb356]? = some (.cells #[.int .i64 (wrap64 (a0)), .int .i64 (wrap64 (a1)), .int .u32 a2, .string (a3.extract 0 ((ji8) : Int).toNat)] 45 (0, 0))) ∧ Aside0 (Below w.heap.size w wc))
        case first =>
          have H := HC12.out
          clear HC12
          by_cases c17 : t358 = 0
          · rw [if_pos c17] at H
            have c17b0 : (t358 == 0) = true := beq_iff_eq.mpr c17
            have c17b1 : (t358 != 0) = false := bne_eq_false_iff_eq.mpr c17
            clear c17
            (first | rw [c17b0] | (simp only [i64_w, i32_w]; rw [c17b0]) | skip)
            have H' := Aside0.mk H
            clear H
            have hcz18_0 : w16.cell? ⟨gb356, 0, none⟩ = some (.int .i64 (wrap64 (a0))) := (blk_cell BK356.out 0).trans rfl
            have hcz18_1 : w16.cell? ⟨gb356, 1, none⟩ = some (.int .i64 (wrap64 (a1))) := (blk_cell BK356.out 1).trans rfl
            have hcz18_2 : w16.cell? ⟨gb356, 2, none⟩ = some (.int .u32 a2) := (blk_cell BK356.out 2).trans rfl
            have hcz18_3 : w16.cell? ⟨gb356, 3, none⟩ = some (.string (a3.extract 0 ((ji8) : Int).toNat)) := (blk_cell BK356.out 3).trans rfl
            have hfz18_0 := blk_frozen BK356.out 0
            have hfz18_1 := blk_frozen BK356.out 1
            have hfz18_2 := blk_frozen BK356.out 2
            have hfz18_3 := blk_frozen BK356.out 3
            go_wp2
            go_meet
            case rel => exact ⟨_, (((t357.size : Int) != (wrap64 (8 + ((a3.extract 0 ((ji8) : Int).toNat).size : Int))))), (by first | rfl | (simp; done) | (congr 2; simp only [ByteArray.size_extract, ByteArray.size_append]; (try have := of_eq_true c9b0); (try have := of_eq_true c10b0); (try unfold wrap64); omega) | (simp only [ByteArray.size_extract, ByteArray.size_append, Nat.sub_zero]; done) | (congr 1; simp only [ByteArray.size_extract, ByteArray.size_append, Nat.sub_zero]; (try have := of_eq_true c9b0); (try have := of_eq_true c10b0); omega) | (simp only [← hji8] <;> (first | rfl | simp)) | (simp [*]; done)), H', ⟨by first | omega | exact Nat.le_refl _⟩, ⟨by (with_reducible repeat (first | refine blk_drewN ?_ _ | refine blk_drew ?_ | refine blk_alloc ?_ _)); exact BK356.out⟩, ⟨by repeat (first | (with_reducible first | exact HB.out | apply below_alloc | apply pw_below_drewN | apply below_drew1 | refine below_set ?_ GE356.out) | exact HB.out)⟩⟩
          · rw [if_neg c17] at H
            have c17b0 : (t358 == 0) = false := beq_eq_false_iff_ne.mpr c17
            have c17b1 : (t358 != 0) = true := bne_iff_ne.mpr c17
            (first | rw [c17b0] | (simp only [i64_w, i32_w]; rw [c17b0]) | skip)
            have H' := Aside0.mk H
            clear H
            go_wp2
            go_meet
            case rel => exact ⟨_, (true), (by first | rfl | (simp; done) | (congr 2; simp only [ByteArray.size_extract, ByteArray.size_append]; (try have := of_eq_true c9b0); (try have := of_eq_true c10b0); (try unfold wrap64); omega) | (simp only [ByteArray.size_extract, ByteArray.size_append, Nat.sub_zero]; done) | (congr 1; simp only [ByteArray.size_extract, ByteArray.size_append, Nat.sub_zero]; (try have := of_eq_true c9b0); (try have := of_eq_true c10b0); omega) | (simp [*]; done)), H', ⟨by first | omega | exact Nat.le_refl _⟩, ⟨by (with_reducible repeat (first | refine blk_drewN ?_ _ | refine blk_drew ?_ | refine blk_alloc ?_ _)); exact BK356.out⟩, ⟨by repeat (first | (with_reducible first | exact HB.out | apply below_alloc | apply pw_below_drewN | apply below_drew1 | refine below_set ?_ GE356.out) | exact HB.out)⟩⟩
        case rest =>
          clear HC12
          try clear c1
          try clear c2
          try clear p2
          try clear p6
          try clear c7
          try clear c9
          try clear c9b0
          try clear c9b1
          try clear c10
          try clear c10b0
          try clear c10b1
          try clear c11
          try clear c17
          try clear c17b0
          try clear c17b1
          try clear hcz15_0
          try clear hcz15_1
          try clear hcz15_2
          try clear hcz15_3
          try clear hcz18_0
          try clear hcz18_1
          try clear hcz18_2
          try clear hcz18_3
          try clear hfz15_0
          try clear hfz15_1
          try clear hfz15_2
          try clear hfz15_3
          try clear hfz18_0
          try clear hfz18_1
          try clear hfz18_2
          try clear hfz18_3
          obtain ⟨kq, x51_11, rfl, HA, HJ11, BK356, HB⟩ := hcut
          cases kq with
          | zero => exact absurd HA.out (by simp [weighbridgelaw07_IcmpBack.j0])
          | succ kj11 =>
            have H := HA.out
            clear HA
            simp only [weighbridgelaw07_IcmpBack.j0] at H
            by_cases c19 : x51_11 = true
            · subst c19
              have H1 : (some false) = some r := by rw [if_pos rfl] at H; exact H
              clear H
              have H := H1
              clear H1
              exact absurd ((Option.some.inj H).trans hr_) (by decide)
            · replace c19 := Bool.eq_false_iff.mpr c19
              subst c19
              have H1 : ((icmp_Parse.f t357).bind fun bt359 => (if a4 < 0 then (if t357.size ≤ 281474976710656 then ((some (numsOf t357 : List Int)).bind fun y365 => (if (y365.length : Int) = 0 then (none) else (if 0 ≤ (Int.tmod (wrap64 (Int.tdiv (wrap64 (-(wrap64 (a4 + 1)))) 8)) (y365.length : Int)) then (if (Int.tmod (wrap64 (Int.tdiv (wrap64 (-(wrap64 (a4 + 1)))) 8)) (y365.length : Int)) < (y365.length : Int) then (if 0 ≤ (Int.tmod (wrap64 (-(wrap64 (a4 + 1)))) 8) then ((icmp_Parse.f (strOfNums (y365.set ((Int.tmod (wrap64 (Int.tdiv (wrap64 (-(wrap64 (a4 + 1)))) 8)) (y365.length : Int)) : Int).toNat (Go.bits .xor .u8 (rd y365 (Int.tmod (wrap64 (Int.tdiv (wrap64 (-(wrap64 (a4 + 1)))) 8)) (y365.length : Int))) (shl .u8 1 (Int.tmod (wrap64 (-(wrap64 (a4 + 1)))) 8)))))).bind fun bt370 => ((icmp_MTU.f (wrap64 (a0)) (wrap64 (a1)) a2 (a3.extract 0 ((ji8) : Int).toNat)).bind fun bt376 => (if true = true then (if (bt359.1 == (wrap64 (a0)) && (bt359.2.1 == (wrap64 (a1)) && (bt359.2.2.1 == a2 && (bt359.2.2.2.1.toList == (a3.extract 0 ((ji8) : Int).toNat).toList)))) = true then (if bt359.2.2.2.2 = 0 then (if bt370.2.2.2.2 = 7 then (if (bt370.1 == 0 && (bt370.2.1 == 0 && (bt370.2.2.1 == 0 && (bt370.2.2.2.1.toList == ([] : List UInt8))))) = true then (if a0 = 3 then (if (bt376.2 == (a1 == 4)) = true then (if bt376.2 = true then (some (bt376.1 == (wrap64 (Int.tmod a2 65536)))) else (some true)) else (some false)) else (if (bt376.2 == false) = true then (if bt376.2 = true then (some (bt376.1 == (wrap64 (Int.tmod a2 65536)))) else (some true)) else (some false))) else (some false)) else (some false)) else (some false)) else (some false)) else (some false)))) else (none)) else (none)) else (none)))) else (none)) else (if t357.size ≤ 281474976710656 then ((some (numsOf t357 : List Int)).bind fun y378 => (if (y378.length : Int) = 0 then (none) else (if 0 ≤ (Int.tmod (wrap64 (Int.tdiv a4 8)) (y378.length : Int)) then (if (Int.tmod (wrap64 (Int.tdiv a4 8)) (y378.length : Int)) < (y378.length : Int) then (if 0 ≤ (Int.tmod a4 8) then ((icmp_Parse.f (strOfNums (y378.set ((Int.tmod (wrap64 (Int.tdiv a4 8)) (y378.length : Int)) : Int).toNat (Go.bits .xor .u8 (rd y378 (Int.tmod (wrap64 (Int.tdiv a4 8)) (y378.length : Int))) (shl .u8 1 (Int.tmod a4 8)))))).bind fun bt383 => ((icmp_MTU.f (wrap64 (a0)) (wrap64 (a1)) a2 (a3.extract 0 ((ji8) : Int).toNat)).bind fun bt389 => (if true = true then (if (bt359.1 == (wrap64 (a0)) && (bt359.2.1 == (wrap64 (a1)) && (bt359.2.2.1 == a2 && (bt359.2.2.2.1.toList == (a3.extract 0 ((ji8) : Int).toNat).toList)))) = true then (if bt359.2.2.2.2 = 0 then (if bt383.2.2.2.2 = 7 then (if (bt383.1 == 0 && (bt383.2.1 == 0 && (bt383.2.2.1 == 0 && (bt383.2.2.2.1.toList == ([] : List UInt8))))) = true then (if a0 = 3 then (if (bt389.2 == (a1 == 4)) = true then (if bt389.2 = true then (some (bt389.1 == (wrap64 (Int.tmod a2 65536)))) else (some true)) else (some false)) else (if (bt389.2 == false) = true then (if bt389.2 = true then (some (bt389.1 == (wrap64 (Int.tmod a2 65536)))) else (some true)) else (some false))) else (some false)) else (some false)) else (some false)) else (some false)) else (some false)))) else (none)) else (none)) else (none)))) else (none)))) = some r := by rw [if_neg (show ¬ (false = true) by decide)] at H; exact H
              clear H
              have H := H1
              clear H1
              replace H := Option.bind_eq_some_iff.mp H
              obtain ⟨⟨t359, t360, t361, t362, t363⟩, A200, H⟩ := H
              replace H : (if a4 < 0 then (if t357.size ≤ 281474976710656 then ((some (numsOf t357 : List Int)).bind fun y365 => (if (y365.length : Int) = 0 then (none) else (if 0 ≤ (Int.tmod (wrap64 (Int.tdiv (wrap64 (-(wrap64 (a4 + 1)))) 8)) (y365.length : Int)) then (if (Int.tmod (wrap64 (Int.tdiv (wrap64 (-(wrap64 (a4 + 1)))) 8)) (y365.length : Int)) < (y365.length : Int) then (if 0 ≤ (Int.tmod (wrap64 (-(wrap64 (a4 + 1)))) 8) then ((icmp_Parse.f (strOfNums (y365.set ((Int.tmod (wrap64 (Int.tdiv (wrap64 (-(wrap64 (a4 + 1)))) 8)) (y365.length : Int)) : Int).toNat (Go.bits .xor .u8 (rd y365 (Int.tmod (wrap64 (Int.tdiv (wrap64 (-(wrap64 (a4 + 1)))) 8)) (y365.length : Int))) (shl .u8 1 (Int.tmod (wrap64 (-(wrap64 (a4 + 1)))) 8)))))).bind fun bt370 => ((icmp_MTU.f (wrap64 (a0)) (wrap64 (a1)) a2 (a3.extract 0 ((ji8) : Int).toNat)).bind fun bt376 => (if true = true then (if (t359 == (wrap64 (a0)) && (t360 == (wrap64 (a1)) && (t361 == a2 && (t362.toList == (a3.extract 0 ((ji8) : Int).toNat).toList)))) = true then (if t363 = 0 then (if bt370.2.2.2.2 = 7 then (if (bt370.1 == 0 && (bt370.2.1 == 0 && (bt370.2.2.1 == 0 && (bt370.2.2.2.1.toList == ([] : List UInt8))))) = true then (if a0 = 3 then (if (bt376.2 == (a1 == 4)) = true then (if bt376.2 = true then (some (bt376.1 == (wrap64 (Int.tmod a2 65536)))) else (some true)) else (some false)) else (if (bt376.2 == false) = true then (if bt376.2 = true then (some (bt376.1 == (wrap64 (Int.tmod a2 65536)))) else (some true)) else (some false))) else (some false)) else (some false)) else (some false)) else (some false)) else (some false)))) else (none)) else (none)) else (none)))) else (none)) else (if t357.size ≤ 281474976710656 then ((some (numsOf t357 : List Int)).bind fun y378 => (if (y378.length : Int) = 0 then (none) else (if 0 ≤ (Int.tmod (wrap64 (Int.tdiv a4 8)) (y378.length : Int)) then (if (Int.tmod (wrap64 (Int.tdiv a4 8)) (y378.length : Int)) < (y378.length : Int) then (if 0 ≤ (Int.tmod a4 8) then ((icmp_Parse.f (strOfNums (y378.set ((Int.tmod (wrap64 (Int.tdiv a4 8)) (y378.length : Int)) : Int).toNat (Go.bits .xor .u8 (rd y378 (Int.tmod (wrap64 (Int.tdiv a4 8)) (y378.length : Int))) (shl .u8 1 (Int.tmod a4 8)))))).bind fun bt383 => ((icmp_MTU.f (wrap64 (a0)) (wrap64 (a1)) a2 (a3.extract 0 ((ji8) : Int).toNat)).bind fun bt389 => (if true = true then (if (t359 == (wrap64 (a0)) && (t360 == (wrap64 (a1)) && (t361 == a2 && (t362.toList == (a3.extract 0 ((ji8) : Int).toNat).toList)))) = true then (if t363 = 0 then (if bt383.2.2.2.2 = 7 then (if (bt383.1 == 0 && (bt383.2.1 == 0 && (bt383.2.2.1 == 0 && (bt383.2.2.2.1.toList == ([] : List UInt8))))) = true then (if a0 = 3 then (if (bt389.2 == (a1 == 4)) = true then (if bt389.2 = true then (some (bt389.1 == (wrap64 (Int.tmod a2 65536)))) else (some true)) else (some false)) else (if (bt389.2 == false) = true then (if bt389.2 = true then (some (bt389.1 == (wrap64 (Int.tmod a2 65536)))) else (some true)) else (some false))) else (some false)) else (some false)) else (some false)) else (some false)) else (some false)))) else (none)) else (none)) else (none)))) else (none))) = some r := H
              have A20 := Aside0.mk A200
              clear A200
              by_cases c21 : a4 < 0
              · exact absurd c21 hc_
              · rw [if_neg c21] at H
                have c21b0 : decide (a4 < 0) = false := decide_eq_false c21
                clear c21
                by_cases c127 : t357.size ≤ 281474976710656
                · rw [if_pos c127] at H
                  have c127b0 := eq_true c127
                  have c127b1 : decide (t357.size ≤ 281474976710656) = true := decide_eq_true c127
                  clear c127
                  obtain ⟨y378, hy378⟩ : ∃ y_ : List Int, y_ = (numsOf t357) := ⟨_, rfl⟩
                  replace H : (if (y378.length : Int) = 0 then (none) else (if 0 ≤ (Int.tmod (wrap64 (Int.tdiv a4 8)) (y378.length : Int)) then (if (Int.tmod (wrap64 (Int.tdiv a4 8)) (y378.length : Int)) < (y378.length : Int) then (if 0 ≤ (Int.tmod a4 8) then ((icmp_Parse.f (strOfNums (y378.set ((Int.tmod (wrap64 (Int.tdiv a4 8)) (y378.length : Int)) : Int).toNat (Go.bits .xor .u8 (rd y378 (Int.tmod (wrap64 (Int.tdiv a4 8)) (y378.length : Int))) (shl .u8 1 (Int.tmod a4 8)))))).bind fun bt383 => ((icmp_MTU.f (wrap64 (a0)) (wrap64 (a1)) a2 (a3.extract 0 ((ji8) : Int).toNat)).bind fun bt389 => (if true = true then (if (t359 == (wrap64 (a0)) && (t360 == (wrap64 (a1)) && (t361 == a2 && (t362.toList == (a3.extract 0 ((ji8) : Int).toNat).toList)))) = true then (if t363 = 0 then (if bt383.2.2.2.2 = 7 then (if (bt383.1 == 0 && (bt383.2.1 == 0 && (bt383.2.2.1 == 0 && (bt383.2.2.2.1.toList == ([] : List UInt8))))) = true then (if a0 = 3 then (if (bt389.2 == (a1 == 4)) = true then (if bt389.2 = true then (some (bt389.1 == (wrap64 (Int.tmod a2 65536)))) else (some true)) else (some false)) else (if (bt389.2 == false) = true then (if bt389.2 = true then (some (bt389.1 == (wrap64 (Int.tmod a2 65536)))) else (some true)) else (some false))) else (some false)) else (some false)) else (some false)) else (some false)) else (some false)))) else (none)) else (none)) else (none))) = some r := by first | (rw [hy378]; with_reducible exact H) | (have H2_ := (Option.bind_some _ _).symm.trans H; rw [hy378]; with_reducible exact H2_) | (have H2_ := (Option.bind_some _ _).symm.trans H; with_reducible exact H2_) | with_reducible exact H | (rw [hy378]; exact H) | exact H
                  have Ny378 := Aside0.mk hy378
                  clear hy378
                  by_cases c128 : (y378.length : Int) = 0
                  · rw [if_pos c128] at H
                    exact absurd H (by simp)
                  · rw [if_neg c128] at H
                    have c128b0 : ((y378.length : Int) == 0) = false := beq_eq_false_iff_ne.mpr c128
                    have c128b1 : ((y378.length : Int) != 0) = true := bne_iff_ne.mpr c128
                    have c128b2 : ¬ (y378 = []) := fun h_ => c128 (by rw [h_]; rfl)
                    obtain ⟨ji129, hji129⟩ : ∃ j_ : Int, (Int.tmod (wrap64 (Int.tdiv a4 8)) (y378.length : Int)) = j_ := ⟨_, rfl⟩
                    replace H : (if 0 ≤ (ji129) then (if (ji129) < (y378.length : Int) then (if 0 ≤ (Int.tmod a4 8) then ((icmp_Parse.f (strOfNums (y378.set ((ji129) : Int).toNat (Go.bits .xor .u8 (rd y378 (ji129)) (shl .u8 1 (Int.tmod a4 8)))))).bind fun bt383 => ((icmp_MTU.f (wrap64 (a0)) (wrap64 (a1)) a2 (a3.extract 0 ((ji8) : Int).toNat)).bind fun bt389 => (if true = true then (if (t359 == (wrap64 (a0)) && (t360 == (wrap64 (a1)) && (t361 == a2 && (t362.toList == (a3.extract 0 ((ji8) : Int).toNat).toList)))) = true then (if t363 = 0 then (if bt383.2.2.2.2 = 7 then (if (bt383.1 == 0 && (bt383.2.1 == 0 && (bt383.2.2.1 == 0 && (bt383.2.2.2.1.toList == ([] : List UInt8))))) = true then (if a0 = 3 then (if (bt389.2 == (a1 == 4)) = true then (if bt389.2 = true then (some (bt389.1 == (wrap64 (Int.tmod a2 65536)))) else (some true)) else (some false)) else (if (bt389.2 == false) = true then (if bt389.2 = true then (some (bt389.1 == (wrap64 (Int.tmod a2 65536)))) else (some true)) else (some false))) else (some false)) else (some false)) else (some false)) else (some false)) else (some false)))) else (none)) else (none)) else (none)) = some r := by first | (rw [hji129] at H; exact H) | (simp only [hji129] at H ⊢; exact H)
                    (try rw [hji129] at A20)
                    by_cases c130 : 0 ≤ (ji129)
                    · rw [if_pos c130] at H
                      have c130b0 : decide (0 ≤ (ji129)) = true := decide_eq_true c130
                      clear c130
                      by_cases c131 : (ji129) < (y378.length : Int)
                      · rw [if_pos c131] at H
                        have c131b0 : decide ((ji129) < (y378.length : Int)) = true := decide_eq_true c131
                        clear c131
                        obtain ⟨ji132, hji132⟩ : ∃ j_ : Int, (Int.tmod a4 8) = j_ := ⟨_, rfl⟩
                        replace H : (if 0 ≤ (ji132) then ((icmp_Parse.f (strOfNums (y378.set ((ji129) : Int).toNat (Go.bits .xor .u8 (rd y378 (ji129)) (shl .u8 1 (ji132)))))).bind fun bt383 => ((icmp_MTU.f (wrap64 (a0)) (wrap64 (a1)) a2 (a3.extract 0 ((ji8) : Int).toNat)).bind fun bt389 => (if true = true then (if (t359 == (wrap64 (a0)) && (t360 == (wrap64 (a1)) && (t361 == a2 && (t362.toList == (a3.extract 0 ((ji8) : Int).toNat).toList)))) = true then (if t363 = 0 then (if bt383.2.2.2.2 = 7 then (if (bt383.1 == 0 && (bt383.2.1 == 0 && (bt383.2.2.1 == 0 && (bt383.2.2.2.1.toList == ([] : List UInt8))))) = true then (if a0 = 3 then (if (bt389.2 == (a1 == 4)) = true then (if bt389.2 = true then (some (bt389.1 == (wrap64 (Int.tmod a2 65536)))) else (some true)) else (some false)) else (if (bt389.2 == false) = true then (if bt389.2 = true then (some (bt389.1 == (wrap64 (Int.tmod a2 65536)))) else (some true)) else (some false))) else (some false)) else (some false)) else (some false)) else (some false)) else (some false)))) else (none)) = some r := by first | (rw [hji132] at H; exact H) | (simp only [hji132] at H ⊢; exact H)
                        (try rw [hji132] at A20)
                        by_cases c133 : 0 ≤ (ji132)
                        · rw [if_pos c133] at H
                          have c133b0 := eq_true c133
                          have c133b1 : decide (0 ≤ (ji132)) = true := decide_eq_true c133
                          clear c133
                          obtain ⟨ji134, hji134⟩ : ∃ j_ : Int, (shl .u8 1 (ji132)) = j_ := ⟨_, rfl⟩
                          replace H : ((icmp_Parse.f (strOfNums (y378.set ((ji129) : Int).toNat (Go.bits .xor .u8 (rd y378 (ji129)) (ji134))))).bind fun bt383 => ((icmp_MTU.f (wrap64 (a0)) (wrap64 (a1)) a2 (a3.extract 0 ((ji8) : Int).toNat)).bind fun bt389 => (if true = true then (if (t359 == (wrap64 (a0)) && (t360 == (wrap64 (a1)) && (t361 == a2 && (t362.toList == (a3.extract 0 ((ji8) : Int).toNat).toList)))) = true then (if t363 = 0 then (if bt383.2.2.2.2 = 7 then (if (bt383.1 == 0 && (bt383.2.1 == 0 && (bt383.2.2.1 == 0 && (bt383.2.2.2.1.toList == ([] : List UInt8))))) = true then (if a0 = 3 then (if (bt389.2 == (a1 == 4)) = true then (if bt389.2 = true then (some (bt389.1 == (wrap64 (Int.tmod a2 65536)))) else (some true)) else (some false)) else (if (bt389.2 == false) = true then (if bt389.2 = true then (some (bt389.1 == (wrap64 (Int.tmod a2 65536)))) else (some true)) else (some false))) else (some false)) else (some false)) else (some false)) else (some false)) else (some false)))) = some r := by first | (rw [hji134] at H; exact H) | (simp only [hji134] at H ⊢; exact H)
                          (try rw [hji134] at A20)
                          have hji134_ : (IntKind.u8.wrap (1 * 2 ^ min (ji132).toNat 8)) = ji134 := hji134
                          have hji134z : (ji132) ≤ 8 → (IntKind.u8.wrap (1 * 2 ^ (ji132).toNat)) = ji134 := shl_small hji134
                          have hji134u : (IntKind.u8.wrap (2 ^ min (ji132).toNat 8)) = ji134 := by have h_ := hji134_; rw [Int.one_mul] at h_; exact h_
                          have hji134v : (ji132) ≤ 8 → (IntKind.u8.wrap (2 ^ (ji132).toNat)) = ji134 := fun hle_ => by have h_ := hji134z hle_; rw [Int.one_mul] at h_; exact h_
                          obtain ⟨y382, hy382⟩ : ∃ y_ : List Int, y_ = (y378.set ((ji129) : Int).toNat (Go.bits .xor .u8 (rd y378 (ji129)) (ji134))) := ⟨_, rfl⟩
                          replace H : ((icmp_Parse.f (strOfNums y382)).bind fun bt383 => ((icmp_MTU.f (wrap64 (a0)) (wrap64 (a1)) a2 (a3.extract 0 ((ji8) : Int).toNat)).bind fun bt389 => (if true = true then (if (t359 == (wrap64 (a0)) && (t360 == (wrap64 (a1)) && (t361 == a2 && (t362.toList == (a3.extract 0 ((ji8) : Int).toNat).toList)))) = true then (if t363 = 0 then (if bt383.2.2.2.2 = 7 then (if (bt383.1 == 0 && (bt383.2.1 == 0 && (bt383.2.2.1 == 0 && (bt383.2.2.2.1.toList == ([] : List UInt8))))) = true then (if a0 = 3 then (if (bt389.2 == (a1 == 4)) = true then (if bt389.2 = true then (some (bt389.1 == (wrap64 (Int.tmod a2 65536)))) else (some true)) else (some false)) else (if (bt389.2 == false) = true then (if bt389.2 = true then (some (bt389.1 == (wrap64 (Int.tmod a2 65536)))) else (some true)) else (some false))) else (some false)) else (some false)) else (some false)) else (some false)) else (some false)))) = some r := by first | (rw [hy382]; with_reducible exact H) | (have H2_ := (Option.bind_some _ _).symm.trans H; rw [hy382]; with_reducible exact H2_) | (have H2_ := (Option.bind_some _ _).symm.trans H; with_reducible exact H2_) | with_reducible exact H | (rw [hy382]; exact H) | exact H
                          have Ny382 := Aside0.mk hy382
                          clear hy382
                          replace H := Option.bind_eq_some_iff.mp H
                          obtain ⟨⟨t383, t384, t385, t386, t387⟩, A1360, H⟩ := H
                          replace H : ((icmp_MTU.f (wrap64 (a0)) (wrap64 (a1)) a2 (a3.extract 0 ((ji8) : Int).toNat)).bind fun bt389 => (if true = true then (if (t359 == (wrap64 (a0)) && (t360 == (wrap64 (a1)) && (t361 == a2 && (t362.toList == (a3.extract 0 ((ji8) : Int).toNat).toList)))) = true then (if t363 = 0 then (if t387 = 7 then (if (t383 == 0 && (t384 == 0 && (t385 == 0 && (t386.toList == ([] : List UInt8))))) = true then (if a0 = 3 then (if (bt389.2 == (a1 == 4)) = true then (if bt389.2 = true then (some (bt389.1 == (wrap64 (Int.tmod a2 65536)))) else (some true)) else (some false)) else (if (bt389.2 == false) = true then (if bt389.2 = true then (some (bt389.1 == (wrap64 (Int.tmod a2 65536)))) else (some true)) else (some false))) else (some false)) else (some false)) else (some false)) else (some false)) else (some false))) = some r := H
                          have A136 := Aside0.mk A1360
                          clear A1360
                          replace H := Option.bind_eq_some_iff.mp H
                          obtain ⟨⟨t389, t390⟩, A1370, H⟩ := H
                          replace H : (if true = true then (if (t359 == (wrap64 (a0)) && (t360 == (wrap64 (a1)) && (t361 == a2 && (t362.toList == (a3.extract 0 ((ji8) : Int).toNat).toList)))) = true then (if t363 = 0 then (if t387 = 7 then (if (t383 == 0 && (t384 == 0 && (t385 == 0 && (t386.toList == ([] : List UInt8))))) = true then (if a0 = 3 then (if (t390 == (a1 == 4)) = true then (if t390 = true then (some (t389 == (wrap64 (Int.tmod a2 65536)))) else (some true)) else (some false)) else (if (t390 == false) = true then (if t390 = true then (some (t389 == (wrap64 (Int.tmod a2 65536)))) else (some true)) else (some false))) else (some false)) else (some false)) else (some false)) else (some false)) else (some false)) = some r := H
                          have A137 := Aside0.mk A1370
                          clear A1370
                          have c138 : true = true := rfl
                          · clear c138
                            have H1 : (if (t359 == (wrap64 (a0)) && (t360 == (wrap64 (a1)) && (t361 == a2 && (t362.toList == (a3.extract 0 ((ji8) : Int).toNat).toList)))) = true then (if t363 = 0 then (if t387 = 7 then (if (t383 == 0 && (t384 == 0 && (t385 == 0 && (t386.toList == ([] : List UInt8))))) = true then (if a0 = 3 then (if (t390 == (a1 == 4)) = true then (if t390 = true then (some (t389 == (wrap64 (Int.tmod a2 65536)))) else (some true)) else (some false)) else (if (t390 == false) = true then (if t390 = true then (some (t389 == (wrap64 (Int.tmod a2 65536)))) else (some true)) else (some false))) else (some false)) else (some false)) else (some false)) else (some false)) = some r := by rw [if_pos rfl] at H; exact H
                            clear H
                            have H := H1
                            clear H1
                            by_cases c139 : (t359 == (wrap64 (a0)) && (t360 == (wrap64 (a1)) && (t361 == a2 && (t362.toList == (a3.extract 0 ((ji8) : Int).toNat).toList)))) = true
                            · rw [if_pos c139] at H
                              have c139b0 : (t359 == (wrap64 (a0)) && (t360 == (wrap64 (a1)) && (t361 == a2 && (t362.toList == (a3.extract 0 ((ji8) : Int).toNat).toList)))) = true := c139
                              (try (have c139b1 : decide (t359 = (wrap64 (a0)) && (t360 == (wrap64 (a1)) && (t361 == a2 && (t362.toList == (a3.extract 0 ((ji8) : Int).toNat).toList)))) = true := by simpa using c139))
                              (try (have c139b2 : (t359 == (wrap64 (a0)) && (t360 == (wrap64 (a1)) && (t361 == a2 && (t362.toList == (a3.extract 0 ((ji8) : Int).toNat).toList)))) = true := by simpa using c139))
                              clear c139
                              by_cases c140 : t363 = 0
                              · rw [if_pos c140] at H
                                have c140b0 : (t363 == 0) = true := beq_iff_eq.mpr c140
                                have c140b1 : (t363 != 0) = false := bne_eq_false_iff_eq.mpr c140
                                clear c140
                                by_cases c141 : t387 = 7
                                · rw [if_pos c141] at H
                                  have c141b0 : (t387 == 7) = true := beq_iff_eq.mpr c141
                                  have c141b1 : (t387 != 7) = false := bne_eq_false_iff_eq.mpr c141
                                  clear c141
                                  by_cases c142 : (t383 == 0 && (t384 == 0 && (t385 == 0 && (t386.toList == ([] : List UInt8))))) = true
                                  · rw [if_pos c142] at H
                                    have c142b0 : (t383 == 0 && (t384 == 0 && (t385 == 0 && (t386.toList == ([] : List UInt8))))) = true := c142
                                    (try (have c142bq : (t383 = 0 ∧ (t384 = 0 ∧ (t385 = 0 ∧ (t386.toList = ([] : List UInt8))))) = True := eq_true (by simpa using c142b0)))
                                    (try (have c142b1 : decide (t383 = 0 && (t384 == 0 && (t385 == 0 && (t386.toList == ([] : List UInt8))))) = true := by simpa using c142))
                                    (try (have c142b2 : (t383 == 0 && (t384 == 0 && (t385 == 0 && (t386.toList == ([] : List UInt8))))) = true := by simpa using c142))
                                    clear c142
                                    by_cases c143 : a0 = 3
                                    · rw [if_pos c143] at H
                                      have c143b0 : (a0 == 3) = true := beq_iff_eq.mpr c143
                                      have c143b1 : (a0 != 3) = false := bne_eq_false_iff_eq.mpr c143
                                      clear c143
                                      by_cases c144 : (t390 == (a1 == 4)) = true
                                      · rw [if_pos c144] at H
                                        have c144b0 : (t390 == (a1 == 4)) = true := c144
                                        (try (have c144b1 : decide (t390 = (a1 == 4)) = true := by simpa using c144))
                                        (try (have c144b2 : (t390 == (a1 == 4)) = true := by simpa using c144))
                                        clear c144
                                        by_cases c145 : t390 = true
                                        · subst c145
                                          have H1 : (some (t389 == (wrap64 (Int.tmod a2 65536)))) = some r := by rw [if_pos rfl] at H; exact H
                                          clear H
                                          have H := H1
                                          clear H1
                                          obtain rfl := Option.some.inj H
                                          try go_wp2_with (first | ((with_reducible refine gate_callee (f := 29) rfl ?_); refine goesL_ (some 54) rfl rfl Try.func29 (by kernel_rfl) rfl #[.string t357] rfl (by (try simp only [List.map_toArray, List.map_cons, List.map_nil]); first | done | rfl | (simp only [List.length_drop, List.length_take]; rfl)) ?_; (with_reducible refine (icmp_Parse.calls t357 t359 t360 t361 t362 t363 _ A20.out).mono ?_); rintro e w146 ⟨rfl, hb⟩; (try clear A20); refine ⟨_, rfl, ?_⟩; have n0_ := Aside0.mk (blk_below (g := gb356) (o := .cells #[.int .i64 (wrap64 (a0)), .int .i64 (wrap64 (a1)), .int .u32 a2, .string (a3.extract 0 ((ji8) : Int).toNat)] 45 (0, 0)) (by (with_reducible repeat (first | refine blk_drewN ?_ _ | refine blk_drew ?_ | refine blk_alloc ?_ _)); exact BK356.out) hb); have n1_ := Aside0.mk (below_step (by repeat (first | (with_reducible first | exact HB.out | apply below_alloc | apply pw_below_drewN | apply below_drew1 | refine below_set ?_ GE356.out) | exact HB.out)) hb); clear BK356; clear HB; have BK356 := n0_; have HB := n1_; clear n0_ n1_; (try clear hb); (try clear hb2); (try clear hk); (try clear hi)) | ((with_reducible refine gate_dst (N := 15) rfl ?_); (try (refine gate_guard (by rfl) ?_; dsimp only)); refine box_event ?hg (N := 15) ?hd (cs := #[.int .i64 0, .int .i64 0, .int .u32 0, .string (⟨#[]⟩ : ByteArray)]) (t := 45) ?hr ?_; (case hd => rfl); (case hg => rfl); (case hr => first | (go_simp; done) | (go_simp; rfl)); intro gb364 hg w147 hbox hb; have n0_ := Aside0.mk (blk_below (g := gb356) (o := .cells #[.int .i64 (wrap64 (a0)), .int .i64 (wrap64 (a1)), .int .u32 a2, .string (a3.extract 0 ((ji8) : Int).toNat)] 45 (0, 0)) (by (with_reducible repeat (first | refine blk_drewN ?_ _ | refine blk_drew ?_ | refine blk_alloc ?_ _)); exact BK356.out) hb); have n1_ := Aside0.mk (below_step (by repeat (first | (with_reducible first | exact HB.out | apply below_alloc | apply pw_below_drewN | apply below_drew1 | refine below_set ?_ GE356.out) | exact HB.out)) hb); have n2_ := Aside0.mk (hbox); have n3_ := Aside0.mk ((by rw [hg]; exact (below_size (by repeat (first | (with_reducible first | exact HB.out | apply below_alloc | apply pw_below_drewN | apply below_drew1 | refine below_set ?_ GE356.out) | exact HB.out))) : w.heap.size ≤ gb364)); have n4_ := Aside0.mk ((by rw [hg]; exact (below_size (by repeat (first | (with_reducible first | exact HB.out | apply below_alloc | apply pw_below_drewN | apply below_drew1 | refine below_set ?_ GE356.out) | exact HB.out))) : w.heap.size ≤ gb364)); have n5_ := Aside0.mk ((by rw [hg]; exact Nat.ne_of_lt (blk_lt (g := gb356) (o := .cells #[.int .i64 (wrap64 (a0)), .int .i64 (wrap64 (a1)), .int .u32 a2, .string (a3.extract 0 ((ji8) : Int).toNat)] 45 (0, 0)) (by (with_reducible repeat (first | refine blk_drewN ?_ _ | refine blk_drew ?_ | refine blk_alloc ?_ _)); exact BK356.out)) : gb356 ≠ gb364)); have n6_ := Aside0.mk ((by rw [hg]; exact Nat.ne_of_gt (blk_lt (g := gb356) (o := .cells #[.int .i64 (wrap64 (a0)), .int .i64 (wrap64 (a1)), .int .u32 a2, .string (a3.extract 0 ((ji8) : Int).toNat)] 45 (0, 0)) (by (with_reducible repeat (first | refine blk_drewN ?_ _ | refine blk_drew ?_ | refine blk_alloc ?_ _)); exact BK356.out)) : gb364 ≠ gb356)); clear BK356; clear HB; have BK356 := n0_; have HB := n1_; have BK364 := n2_; have GW364 := n3_; have GE364 := n4_; have NB356_364 := n5_; have NB364_356 := n6_; clear n0_ n1_ n2_ n3_ n4_ n5_ n6_; clear hb hbox hg; have hnb148 := NB364_356.out; have hnc148 := NB356_364.out; have hcz149_0 : w147.cell? ⟨gb364, 0, none⟩ = some (.int .i64 0) := (blk_cell BK364.out 0).trans rfl; have hcz149_1 : w147.cell? ⟨gb364, 1, none⟩ = some (.int .i64 0) := (blk_cell BK364.out 1).trans rfl; have hcz149_2 : w147.cell? ⟨gb364, 2, none⟩ = some (.int .u32 0) := (blk_cell BK364.out 2).trans rfl; have hcz149_3 : w147.cell? ⟨gb364, 3, none⟩ = some (.string (⟨#[]⟩ : ByteArray)) := (blk_cell BK364.out 3).trans rfl; have hfz149_0 := blk_frozen BK364.out 0; have hfz149_1 := blk_frozen BK364.out 1; have hfz149_2 := blk_frozen BK364.out 2; have hfz149_3 := blk_frozen BK364.out 3) | ((with_reducible refine gate_dst (N := 63) rfl ?_); (try (refine gate_guard (by rfl) ?_; dsimp only)); refine Kb.Q_conv (Kd.int .u8) 5 rfl (N := 63) rfl 9 38 _ rfl t357 rfl Try.underlying9 Try.underlying38 Try.underlying5 (ok := fun _ => True) trivial (of_decide_eq_true (by first | (with_reducible assumption) | assumption)) ?_; intro v379 w150 ho151 hb hg_ hnew_; clear hg_ hnew_; (first | rw [← Ny378.out] at ho151 | (simp only [Int.reduceToNat] at ho151; rw [← Ny378.out] at ho151)); have n0_ := Aside0.mk (Kb.Q_lower ho151 (below_size (by repeat (first | (with_reducible first | exact HB.out | apply below_alloc | apply pw_below_drewN | apply below_drew1 | refine below_set ?_ GE356.out | refine below_set ?_ GE364.out) | exact HB.out)))); have n1_ := Aside0.mk (blk_below (g := gb356) (o := .cells #[.int .i64 (wrap64 (a0)), .int .i64 (wrap64 (a1)), .int .u32 a2, .string (a3.extract 0 ((ji8) : Int).toNat)] 45 (0, 0)) (by (with_reducible repeat (first | refine blk_drewN ?_ _ | refine blk_drew ?_ | refine blk_alloc ?_ _)); refine blk_far ?_ NB356_364.out _; (with_reducible repeat (first | refine blk_drewN ?_ _ | refine blk_drew ?_ | refine blk_alloc ?_ _)); refine blk_far ?_ NB356_364.out _; (with_reducible repeat (first | refine blk_drewN ?_ _ | refine blk_drew ?_ | refine blk_alloc ?_ _)); refine blk_far ?_ NB356_364.out _; (with_reducible repeat (first | refine blk_drewN ?_ _ | refine blk_drew ?_ | refine blk_alloc ?_ _)); refine blk_far ?_ NB356_364.out _; (with_reducible repeat (first | refine blk_drewN ?_ _ | refine blk_drew ?_ | refine blk_alloc ?_ _)); exact BK356.out) hb); have n2_ := Aside0.mk (blk_below (g := gb364) (o := .cells #[.int .i64 t359, .int .i64 t360, .int .u32 t361, .string t362] 45 (0, 0)) (by (with_reducible repeat (first | refine blk_drewN ?_ _ | refine blk_drew ?_ | refine blk_alloc ?_ _)); refine blk_put (cs := #[.int .i64 t359, .int .i64 t360, .int .u32 t361, .string (⟨#[]⟩ : ByteArray)]) ?_ 3 _ rfl; (with_reducible repeat (first | refine blk_drewN ?_ _ | refine blk_drew ?_ | refine blk_alloc ?_ _)); refine blk_put (cs := #[.int .i64 t359, .int .i64 t360, .int .u32 0, .string (⟨#[]⟩ : ByteArray)]) ?_ 2 _ rfl; (with_reducible repeat (first | refine blk_drewN ?_ _ | refine blk_drew ?_ | refine blk_alloc ?_ _)); refine blk_put (cs := #[.int .i64 t359, .int .i64 0, .int .u32 0, .string (⟨#[]⟩ : ByteArray)]) ?_ 1 _ rfl; (with_reducible repeat (first | refine blk_drewN ?_ _ | refine blk_drew ?_ | refine blk_alloc ?_ _)); refine blk_put (cs := #[.int .i64 0, .int .i64 0, .int .u32 0, .string (⟨#[]⟩ : ByteArray)]) ?_ 0 _ rfl; (with_reducible repeat (first | refine blk_drewN ?_ _ | refine blk_drew ?_ | refine blk_alloc ?_ _)); exact BK364.out) hb); have n3_ := Aside0.mk (below_step (by repeat (first | (with_reducible first | exact HB.out | apply below_alloc | apply pw_below_drewN | apply below_drew1 | refine below_set ?_ GE356.out | refine below_set ?_ GE364.out) | exact HB.out)) hb); clear BK356; clear BK364; clear HB; have HO380 := n0_; have BK356 := n1_; have BK364 := n2_; have HB := n3_; clear n0_ n1_ n2_ n3_; clear hb ho151))
                                          have n0_ := Aside0.mk (Kb.Q_drew HO380.out)
                                          have n1_ := Aside0.mk (blk_drew BK356.out)
                                          have n2_ := Aside0.mk (blk_drew BK364.out)
                                          have n3_ := Aside0.mk (below_drew1 HB.out)
                                          clear HO380
                                          clear BK356
                                          clear BK364
                                          clear HB
                                          have HO380 := n0_
                                          have BK356 := n1_
                                          have BK364 := n2_
                                          have HB := n3_
                                          clear n0_ n1_ n2_ n3_
                                          obtain ⟨Ao153, co153, eo153, _⟩ := Kb.Q_slice HO380.out
                                          (first | subst eo153 | (injection eo153 with f1_ f2_ f3_; have f4_ := f1_.symm; have f5_ := f3_.symm; clear f1_ f2_ f3_; subst f4_; subst f5_))
                                          have p381 : 0 ≤ ((ji129) : Int) := of_decide_eq_true (by first | (with_reducible assumption) | assumption)
                                          have q381 : (ji129) < (y378.length : Int) := of_decide_eq_true (by first | (with_reducible assumption) | assumption)
                                          obtain ⟨ad381, e381, hx381_0⟩ := Kd.at_int (Kb.Q_reads' HO380.out).2.2 (ji129) p381 q381
                                          cases e381
                                          replace p381 := eq_true p381
                                          replace q381 := eq_true q381
                                          have p135 : 0 ≤ ((ji129) : Int) := of_decide_eq_true (by first | (with_reducible assumption) | assumption)
                                          have q135 : ((ji129) : Int) < ((y378.length : Int) : Int) := of_decide_eq_true (by first | (with_reducible assumption) | assumption)
                                          obtain ⟨go135, co135, eo135, gb135, gl135, cl135, HG135⟩ := Kb.Q_form HO380.out (by omega)
                                          (first | cases eo135 | (injection eo135 with ea_ en_ ec_; (first | subst ea_ | (injection ea_ with ea_; subst ea_)); subst ec_; clear en_))
                                          have GB135 := Aside0.mk gb135
                                          have GG135 := Aside0.mk HG135
                                          clear gb135 gl135 HG135
                                          (first | simp only [add_at, Nat.zero_add] at hx381_0 | skip)
                                          obtain ⟨hx135_0, hf135_0⟩ := Kb.Q_cell 0 HO380.out ((ji129) : Int) p135 q135
                                          replace p135 := eq_true p135
                                          replace q135 := eq_true q135
                                          have HP154 := (Kb.Q_putg HO380.out ((ji129) : Int) (of_decide_eq_true (by first | (with_reducible assumption) | assumption)) (by have h_ : ((ji129) : Int) < ((y378.length : Int) : Int) := of_decide_eq_true (by first | (with_reducible assumption) | assumption); first | exact h_ | (have e_ := (Kb.Q_reads' HO380.out).1; omega) | simpa using h_) (Go.bits .xor .u8 (rd y378 (ji129)) (ji134))).1
                                          rw [← Ny382.out] at HP154
                                          have HQ154 := Aside0.mk HP154
                                          clear HP154
                                          refine start_ (n := 20) (S := fun w' => w'.cell? ⟨go135, ((ji129)).toNat, none⟩ = some (.int .u8 (rd y378 (ji129)))) (ds := [19]) #[false, false, false, false, false, false, false, false, false, false, false, false, false, false, false, false, false, false, false, false] (by kernel_rfl) rfl rfl (hx381_0) (fun hHeld => ?_); refine with_tabW weighbridgelaw07_IcmpBack.tab12 weighbridgelaw07_IcmpBack.bits12 (fun HT_ HW_ => ?_)
                                          generalize w150.drew = w152 at HO380 BK356 BK364 HB GG135 HQ154 hf135_0 hx135_0 hx381_0 hHeld ⊢
                                          refine pure_ (i := 0) (N := some 64) (v := ?_) (a' := ?_) #[true, false, false, false, false, false, false, false, false, false, false, false, false, false, false, false, false, false, false, false] rfl rfl (any_of HT_.out (by kernel_rfl)) (fun _ _ _ h => h) (Or.inl ⟨by rfl, ?_⟩) ?_ ?_
                                          rotate_left
                                          · intro w'
                                            go_simp
                                            with_reducible rfl
                                          rotate_left
                                          · simp only [Act.put, List.setIfInBounds_toArray, List.set_cons_zero, List.set_cons_succ, i64_w, i32_w]
                                            rfl
                                          refine pure_ (i := 1) (N := some 65) (v := ?_) (a' := ?_) #[true, true, false, false, false, false, false, false, false, false, false, false, false, false, false, false, false, false, false, false] rfl rfl (any_of HT_.out (by kernel_rfl)) (fun _ _ _ h => h) (Or.inl ⟨by rfl, ?_⟩) ?_ ?_
                                          rotate_left
                                          · intro w'
                                            go_simp
                                            with_reducible rfl
                                          rotate_left
                                          · simp only [Act.put, List.setIfInBounds_toArray, List.set_cons_zero, List.set_cons_succ, i64_w, i32_w]
                                            rfl
                                          refine pure_ (i := 2) (N := some 66) (v := ?_) (a' := ?_) #[true, true, true, false, false, false, false, false, false, false, false, false, false, false, false, false, false, false, false, false] rfl rfl (any_of HT_.out (by kernel_rfl)) (fun _ _ _ h => h) (Or.inl ⟨by rfl, ?_⟩) ?_ ?_
                                          rotate_left
                                          · intro w'
                                            go_simp
                                            with_reducible rfl
                                          rotate_left
                                          · simp only [Act.put, List.setIfInBounds_toArray, List.set_cons_zero, List.set_cons_succ, i64_w, i32_w]
                                            rfl
                                          refine pure_ (i := 3) (N := some 67) (v := ?_) (a' := ?_) #[true, true, true, true, false, false, false, false, false, false, false, false, false, false, false, false, false, false, false, false] rfl rfl (any_of HT_.out (by kernel_rfl)) (fun _ _ _ h => h) (Or.inl ⟨by rfl, ?_⟩) ?_ ?_
                                          rotate_left
                                          · intro w'
                                            go_simp
                                            with_reducible rfl
                                          rotate_left
                                          · simp only [Act.put, List.setIfInBounds_toArray, List.set_cons_zero, List.set_cons_succ, i64_w, i32_w]
                                            rfl
                                          refine pure_ (i := 4) (N := some 68) (v := ?_) (a' := ?_) #[true, true, true, true, true, false, false, false, false, false, false, false, false, false, false, false, false, false, false, false] rfl rfl (any_of HT_.out (by kernel_rfl)) (fun _ _ _ h => h) (Or.inl ⟨by rfl, ?_⟩) ?_ ?_
                                          rotate_left
                                          · intro w'
                                            go_simp
                                            with_reducible rfl
                                          rotate_left
                                          · simp only [Act.put, List.setIfInBounds_toArray, List.set_cons_zero, List.set_cons_succ, i64_w, i32_w]
                                            rfl
                                          refine pure_ (i := 5) (N := some 69) (v := ?_) (a' := ?_) #[true, true, true, true, true, true, false, false, false, false, false, false, false, false, false, false, false, false, false, false] rfl rfl (any_of HT_.out (by kernel_rfl)) (fun _ _ _ h => h) (Or.inl ⟨by rfl, ?_⟩) ?_ ?_
                                          rotate_left
                                          · intro w'
                                            go_simp
                                            with_reducible rfl
                                          rotate_left
                                          · simp only [Act.put, List.setIfInBounds_toArray, List.set_cons_zero, List.set_cons_succ, i64_w, i32_w]
                                            rfl
                                          refine pure_ (i := 6) (N := some 70) (v := ?_) (a' := ?_) #[true, true, true, true, true, true, true, false, false, false, false, false, false, false, false, false, false, false, false, false] rfl rfl (any_of HT_.out (by kernel_rfl)) (fun _ _ _ h => h) (Or.inl ⟨by rfl, ?_⟩) ?_ ?_
                                          rotate_left
                                          · intro w'
                                            go_simp
                                            with_reducible rfl
                                          rotate_left
                                          · simp only [Act.put, List.setIfInBounds_toArray, List.set_cons_zero, List.set_cons_succ, i64_w, i32_w]
                                            rfl
                                          refine pure_ (i := 7) (N := some 71) (v := ?_) (a' := ?_) #[true, true, true, true, true, true, true, true, false, false, false, false, false, false, false, false, false, false, false, false] rfl rfl (any_of HT_.out (by kernel_rfl)) (fun _ _ _ h => h) (Or.inl ⟨by rfl, ?_⟩) ?_ ?_
                                          rotate_left
                                          · intro w'
                                            go_simp
                                            with_reducible rfl
                                          rotate_left
                                          · simp only [Act.put, List.setIfInBounds_toArray, List.set_cons_zero, List.set_cons_succ, i64_w, i32_w]
                                            rfl
                                          refine pure_ (i := 8) (N := some 72) (v := ?_) (a' := ?_) #[true, true, true, true, true, true, true, true, true, false, false, false, false, false, false, false, false, false, false, false] rfl rfl (any_of HT_.out (by kernel_rfl)) (fun _ _ _ h => h) (Or.inl ⟨by rfl, ?_⟩) ?_ ?_
                                          rotate_left
                                          · intro w'
                                            go_simp
                                            with_reducible rfl
                                          rotate_left
                                          · simp only [Act.put, List.setIfInBounds_toArray, List.set_cons_zero, List.set_cons_succ, i64_w, i32_w]
                                            rfl
                                          refine pure_ (i := 9) (N := some 73) (v := ?_) (a' := ?_) #[true, true, true, true, true, true, true, true, true, true, false, false, false, false, false, false, false, false, false, false] rfl rfl (any_of HT_.out (by kernel_rfl)) (fun _ _ _ h => h) (Or.inl ⟨by rfl, ?_⟩) ?_ ?_
                                          rotate_left
                                          · intro w'
                                            go_simp
                                            with_reducible rfl
                                          rotate_left
                                          · simp only [Act.put, List.setIfInBounds_toArray, List.set_cons_zero, List.set_cons_succ, i64_w, i32_w]
                                            rfl
                                          refine pure_ (i := 10) (N := some 74) (v := ?_) (a' := ?_) #[true, true, true, true, true, true, true, true, true, true, true, false, false, false, false, false, false, false, false, false] rfl rfl (any_of HT_.out (by kernel_rfl)) (fun _ _ _ h => h) (Or.inl ⟨by rfl, ?_⟩) ?_ ?_
                                          rotate_left
                                          · intro w'
                                            go_simp
                                            with_reducible rfl
                                          rotate_left
                                          · simp only [Act.put, List.setIfInBounds_toArray, List.set_cons_zero, List.set_cons_succ, i64_w, i32_w]
                                            rfl
                                          refine pure_ (i := 11) (N := some 75) (v := ?_) (a' := ?_) #[true, true, true, true, true, true, true, true, true, true, true, true, false, false, false, false, false, false, false, false] rfl rfl (any_of HT_.out (by kernel_rfl)) (fun _ _ _ h => h) (Or.inl ⟨by rfl, ?_⟩) ?_ ?_
                                          rotate_left
                                          · intro w'
                                            go_simp
                                            with_reducible rfl
                                          rotate_left
                                          · simp only [Act.put, List.setIfInBounds_toArray, List.set_cons_zero, List.set_cons_succ, i64_w, i32_w]
                                            rfl
                                          refine pure_ (i := 12) (N := some 76) (v := ?_) (a' := ?_) #[true, true, true, true, true, true, true, true, true, true, true, true, true, false, false, false, false, false, false, false] rfl rfl (any_of HT_.out (by kernel_rfl)) (fun _ _ _ h => h) (Or.inl ⟨by rfl, ?_⟩) ?_ ?_
                                          rotate_left
                                          · intro w'
                                            go_simp
                                            with_reducible rfl
                                          rotate_left
                                          · simp only [Act.put, List.setIfInBounds_toArray, List.set_cons_zero, List.set_cons_succ, i64_w, i32_w]
                                            rfl
                                          refine pure_ (i := 14) (N := some 78) (v := ?_) (a' := ?_) #[true, true, true, true, true, true, true, true, true, true, true, true, true, false, true, false, false, false, false, false] rfl rfl (any_of HT_.out (by kernel_rfl)) (fun _ _ _ h => h) (Or.inl ⟨by rfl, ?_⟩) ?_ ?_
                                          rotate_left
                                          · intro w'
                                            go_simp
                                            with_reducible rfl
                                          rotate_left
                                          · simp only [Act.put, List.setIfInBounds_toArray, List.set_cons_zero, List.set_cons_succ, i64_w, i32_w]
                                            rfl
                                          refine pure_ (i := 15) (N := some 79) (v := ?_) (a' := ?_) #[true, true, true, true, true, true, true, true, true, true, true, true, true, false, true, true, false, false, false, false] rfl rfl (any_of HT_.out (by kernel_rfl)) (fun _ _ _ h => h) (Or.inl ⟨by rfl, ?_⟩) ?_ ?_
                                          rotate_left
                                          · intro w'
                                            go_simp
                                            with_reducible rfl
                                          rotate_left
                                          · simp only [Act.put, List.setIfInBounds_toArray, List.set_cons_zero, List.set_cons_succ, i64_w, i32_w]
                                            rfl
                                          refine pure_ (i := 16) (N := some 80) (v := ?_) (a' := ?_) #[true, true, true, true, true, true, true, true, true, true, true, true, true, false, true, true, true, false, false, false] rfl rfl (any_of HT_.out (by kernel_rfl)) (fun _ _ _ h => h) (Or.inl ⟨by rfl, ?_⟩) ?_ ?_
                                          rotate_left
                                          · intro w'
                                            go_simp
                                            with_reducible rfl
                                          rotate_left
                                          · simp only [Act.put, List.setIfInBounds_toArray, List.set_cons_zero, List.set_cons_succ, i64_w, i32_w]
                                            rfl
                                          refine take_ (i := 13) (N := some 77) (v := ?_) (a' := ?_) #[true, true, true, true, true, true, true, true, true, true, true, true, true, true, true, true, true, false, false, false] rfl rfl (take_ofW HT_.out HW_.out (by kernel_rfl)) (fun _ _ _ h => h) (Or.inl ⟨by rfl, ?_⟩) hHeld ?_ ?_
                                          rotate_left
                                          · intro w' s0
                                            go_simp
                                            with_reducible rfl
                                          rotate_left
                                          · simp only [Act.put, List.setIfInBounds_toArray, List.set_cons_zero, List.set_cons_succ, i64_w, i32_w]
                                            rfl
                                          refine pure_ (i := 17) (N := some 81) (v := ?_) (a' := ?_) #[true, true, true, true, true, true, true, true, true, true, true, true, true, true, true, true, true, true, false, false] rfl rfl (any_of HT_.out (by kernel_rfl)) (fun _ _ _ h => h) (Or.inl ⟨by rfl, ?_⟩) ?_ ?_
                                          rotate_left
                                          · intro w'
                                            go_simp
                                            with_reducible rfl
                                          rotate_left
                                          · simp only [Act.put, List.setIfInBounds_toArray, List.set_cons_zero, List.set_cons_succ, i64_w, i32_w]
                                            rfl
                                          refine pure_ (i := 18) (N := some 82) (v := ?_) (a' := ?_) #[true, true, true, true, true, true, true, true, true, true, true, true, true, true, true, true, true, true, true, false] rfl rfl (any_of HT_.out (by kernel_rfl)) (fun _ _ _ h => h) (Or.inl ⟨by rfl, ?_⟩) ?_ ?_
                                          rotate_left
                                          · intro w'
                                            go_simp
                                            with_reducible rfl
                                          rotate_left
                                          · simp only [Act.put, List.setIfInBounds_toArray, List.set_cons_zero, List.set_cons_succ, i64_w, i32_w]
                                            rfl
                                          refine last_ (i := 19) (N := none) #[true, true, true, true, true, true, true, true, true, true, true, true, true, true, true, true, true, true, true, true] rfl rfl (one_of HT_.out (by kernel_rfl)) (by decide) (fun K hK => ?_)
                                          refine skip_ (w1 := ?_) (by rfl) rfl ?_ ?_
                                          rotate_left
                                          · go_simp
                                            rfl
                                          refine hK.out _ _ ?_
                                          clear hK K
                                          refine done_ (done_of HT_.out (by kernel_rfl)) ?_
                                          have n0_ : Aside0 (Kb.Q (Kd.int .u8) 5 (w152.setCell ⟨go135, ((ji129) : Int).toNat, none⟩ (.int .u8 (Go.bits .xor .u8 (rd y378 (ji129)) (ji134)))) w.heap.size (fun _ => True) (.slice (some ⟨go135, 0, none⟩) y378.length co153) y382) := ⟨by (with_reducible repeat (first | apply Kb.Q_alloc | apply Kb.Q_drewN | apply Kb.Q_drew)); exact HQ154.out⟩
                                          have n1_ : Aside0 ((w152.setCell ⟨go135, ((ji129) : Int).toNat, none⟩ (.int .u8 (Go.bits .xor .u8 (rd y378 (ji129)) (ji134)))).heap[gb356]? = some (.cells #[.int .i64 (wrap64 (a0)), .int .i64 (wrap64 (a1)), .int .u32 a2, .string (a3.extract 0 ((ji8) : Int).toNat)] 45 (0, 0))) := ⟨by (with_reducible repeat (first | refine blk_drewN ?_ _ | refine blk_drew ?_ | refine blk_alloc ?_ _)); refine blk_far ?_ (by have h_ := Kb.Q_ne HO380.out BK356.out (by decide); intro e_; exact h_ (by rw [e_]; rfl)) _; (with_reducible repeat (first | refine blk_drewN ?_ _ | refine blk_drew ?_ | refine blk_alloc ?_ _)); exact BK356.out⟩
                                          have n2_ : Aside0 ((w152.setCell ⟨go135, ((ji129) : Int).toNat, none⟩ (.int .u8 (Go.bits .xor .u8 (rd y378 (ji129)) (ji134)))).heap[gb364]? = some (.cells #[.int .i64 t359, .int .i64 t360, .int .u32 t361, .string t362] 45 (0, 0))) := ⟨by (with_reducible repeat (first | refine blk_drewN ?_ _ | refine blk_drew ?_ | refine blk_alloc ?_ _)); refine blk_far ?_ (by have h_ := Kb.Q_ne HO380.out BK364.out (by decide); intro e_; exact h_ (by rw [e_]; rfl)) _; (with_reducible repeat (first | refine blk_drewN ?_ _ | refine blk_drew ?_ | refine blk_alloc ?_ _)); exact BK364.out⟩
                                          have n3_ : Aside0 (Below w.heap.size w (w152.setCell ⟨go135, ((ji129) : Int).toNat, none⟩ (.int .u8 (Go.bits .xor .u8 (rd y378 (ji129)) (ji134))))) := ⟨by repeat (first | (with_reducible first | exact HB.out | apply below_alloc | apply pw_below_drewN | apply below_drew1 | refine below_set ?_ GB135.out | refine below_set ?_ GE356.out | refine below_set ?_ GE364.out) | exact HB.out)⟩
                                          (try clear HO380)
                                          (try clear BK356)
                                          (try clear BK364)
                                          (try clear HB)
                                          generalize (w152.setCell ⟨go135, ((ji129) : Int).toNat, none⟩ (.int .u8 (Go.bits .xor .u8 (rd y378 (ji129)) (ji134)))) = w155 at n0_ n1_ n2_ n3_ ⊢
                                          have HO380 := n0_
                                          have BK356 := n1_
                                          have BK364 := n2_
                                          have HB := n3_
                                          clear n0_ n1_ n2_ n3_
                                          have hcv156 := Kb.Q_string (P := Try.prog) Try.underlying38 Try.underlying5 Try.underlying9 (HO380.out)
                                          try go_wp2_with (first | ((with_reducible refine gate_callee (f := 29) rfl ?_); refine goesL_ (some 86) rfl rfl Try.func29 (by kernel_rfl) rfl #[.string (strOfNums y382)] rfl (by (try simp only [List.map_toArray, List.map_cons, List.map_nil]); first | done | rfl | (simp only [List.length_drop, List.length_take]; rfl)) ?_; (with_reducible refine (icmp_Parse.calls (strOfNums y382) t383 t384 t385 t386 t387 _ A136.out).mono ?_); rintro e w157 ⟨rfl, hb⟩; (try clear A136); refine ⟨_, rfl, ?_⟩; have n0_ := Aside0.mk (Kb.Q_below (by (with_reducible repeat (first | apply Kb.Q_alloc | apply Kb.Q_drewN | apply Kb.Q_drew)); exact HO380.out) hb); have n1_ := Aside0.mk (blk_below (g := gb356) (o := .cells #[.int .i64 (wrap64 (a0)), .int .i64 (wrap64 (a1)), .int .u32 a2, .string (a3.extract 0 ((ji8) : Int).toNat)] 45 (0, 0)) (by (with_reducible repeat (first | refine blk_drewN ?_ _ | refine blk_drew ?_ | refine blk_alloc ?_ _)); exact BK356.out) hb); have n2_ := Aside0.mk (blk_below (g := gb364) (o := .cells #[.int .i64 t359, .int .i64 t360, .int .u32 t361, .string t362] 45 (0, 0)) (by (with_reducible repeat (first | refine blk_drewN ?_ _ | refine blk_drew ?_ | refine blk_alloc ?_ _)); exact BK364.out) hb); have n3_ := Aside0.mk (below_step (by repeat (first | (with_reducible first | exact HB.out | apply below_alloc | apply pw_below_drewN | apply below_drew1 | refine below_set ?_ GE356.out | refine below_set ?_ GE364.out) | exact HB.out)) hb); clear HO380; clear BK356; clear BK364; clear HB; have HO380 := n0_; have BK356 := n1_; have BK364 := n2_; have HB := n3_; clear n0_ n1_ n2_ n3_; (try clear hb); (try clear hb2); (try clear hk); (try clear hi)) | ((with_reducible refine gate_dst (N := 18) rfl ?_); (try (refine gate_guard (by rfl) ?_; dsimp only)); refine box_event ?hg (N := 18) ?hd (cs := #[.int .i64 0, .int .i64 0, .int .u32 0, .string (⟨#[]⟩ : ByteArray)]) (t := 45) ?hr ?_; (case hd => rfl); (case hg => rfl); (case hr => first | (go_simp; done) | (go_simp; rfl)); intro gb388 hg w158 hbox hb; have n0_ := Aside0.mk (Kb.Q_below (by (with_reducible repeat (first | apply Kb.Q_alloc | apply Kb.Q_drewN | apply Kb.Q_drew)); exact HO380.out) hb); have n1_ := Aside0.mk (blk_below (g := gb356) (o := .cells #[.int .i64 (wrap64 (a0)), .int .i64 (wrap64 (a1)), .int .u32 a2, .string (a3.extract 0 ((ji8) : Int).toNat)] 45 (0, 0)) (by (with_reducible repeat (first | refine blk_drewN ?_ _ | refine blk_drew ?_ | refine blk_alloc ?_ _)); exact BK356.out) hb); have n2_ := Aside0.mk (blk_below (g := gb364) (o := .cells #[.int .i64 t359, .int .i64 t360, .int .u32 t361, .string t362] 45 (0, 0)) (by (with_reducible repeat (first | refine blk_drewN ?_ _ | refine blk_drew ?_ | refine blk_alloc ?_ _)); exact BK364.out) hb); have n3_ := Aside0.mk (below_step (by repeat (first | (with_reducible first | exact HB.out | apply below_alloc | apply pw_below_drewN | apply below_drew1 | refine below_set ?_ GE356.out | refine below_set ?_ GE364.out) | exact HB.out)) hb); have n4_ := Aside0.mk (hbox); have n5_ := Aside0.mk ((by rw [hg]; exact (below_size (by repeat (first | (with_reducible first | exact HB.out | apply below_alloc | apply pw_below_drewN | apply below_drew1 | refine below_set ?_ GE356.out | refine below_set ?_ GE364.out) | exact HB.out))) : w.heap.size ≤ gb388)); have n6_ := Aside0.mk ((by rw [hg]; exact (below_size (by repeat (first | (with_reducible first | exact HB.out | apply below_alloc | apply pw_below_drewN | apply below_drew1 | refine below_set ?_ GE356.out | refine below_set ?_ GE364.out) | exact HB.out))) : w.heap.size ≤ gb388)); have n7_ := Aside0.mk ((by rw [hg]; exact Nat.ne_of_lt (blk_lt (g := gb356) (o := .cells #[.int .i64 (wrap64 (a0)), .int .i64 (wrap64 (a1)), .int .u32 a2, .string (a3.extract 0 ((ji8) : Int).toNat)] 45 (0, 0)) (by (with_reducible repeat (first | refine blk_drewN ?_ _ | refine blk_drew ?_ | refine blk_alloc ?_ _)); exact BK356.out)) : gb356 ≠ gb388)); have n8_ := Aside0.mk ((by rw [hg]; exact Nat.ne_of_gt (blk_lt (g := gb356) (o := .cells #[.int .i64 (wrap64 (a0)), .int .i64 (wrap64 (a1)), .int .u32 a2, .string (a3.extract 0 ((ji8) : Int).toNat)] 45 (0, 0)) (by (with_reducible repeat (first | refine blk_drewN ?_ _ | refine blk_drew ?_ | refine blk_alloc ?_ _)); exact BK356.out)) : gb388 ≠ gb356)); have n9_ := Aside0.mk ((by rw [hg]; exact Nat.ne_of_lt (blk_lt (g := gb364) (o := .cells #[.int .i64 t359, .int .i64 t360, .int .u32 t361, .string t362] 45 (0, 0)) (by (with_reducible repeat (first | refine blk_drewN ?_ _ | refine blk_drew ?_ | refine blk_alloc ?_ _)); exact BK364.out)) : gb364 ≠ gb388)); have n10_ := Aside0.mk ((by rw [hg]; exact Nat.ne_of_gt (blk_lt (g := gb364) (o := .cells #[.int .i64 t359, .int .i64 t360, .int .u32 t361, .string t362] 45 (0, 0)) (by (with_reducible repeat (first | refine blk_drewN ?_ _ | refine blk_drew ?_ | refine blk_alloc ?_ _)); exact BK364.out)) : gb388 ≠ gb364)); clear HO380; clear BK356; clear BK364; clear HB; have HO380 := n0_; have BK356 := n1_; have BK364 := n2_; have HB := n3_; have BK388 := n4_; have GW388 := n5_; have GE388 := n6_; have NB356_388 := n7_; have NB388_356 := n8_; have NB364_388 := n9_; have NB388_364 := n10_; clear n0_ n1_ n2_ n3_ n4_ n5_ n6_ n7_ n8_ n9_ n10_; clear hb hbox hg; have hnb159 := NB388_356.out; have hnc159 := NB356_388.out; have hnb160 := NB388_364.out; have hnc160 := NB364_388.out; have hcz161_0 : w158.cell? ⟨gb388, 0, none⟩ = some (.int .i64 0) := (blk_cell BK388.out 0).trans rfl; have hcz161_1 : w158.cell? ⟨gb388, 1, none⟩ = some (.int .i64 0) := (blk_cell BK388.out 1).trans rfl; have hcz161_2 : w158.cell? ⟨gb388, 2, none⟩ = some (.int .u32 0) := (blk_cell BK388.out 2).trans rfl; have hcz161_3 : w158.cell? ⟨gb388, 3, none⟩ = some (.string (⟨#[]⟩ : ByteArray)) := (blk_cell BK388.out 3).trans rfl; have hfz161_0 := blk_frozen BK388.out 0; have hfz161_1 := blk_frozen BK388.out 1; have hfz161_2 := blk_frozen BK388.out 2; have hfz161_3 := blk_frozen BK388.out 3; have hcz162_0 : w158.cell? ⟨gb356, 0, none⟩ = some (.int .i64 (wrap64 (a0))) := (blk_cell BK356.out 0).trans rfl; have hcz162_1 : w158.cell? ⟨gb356, 1, none⟩ = some (.int .i64 (wrap64 (a1))) := (blk_cell BK356.out 1).trans rfl; have hcz162_2 : w158.cell? ⟨gb356, 2, none⟩ = some (.int .u32 a2) := (blk_cell BK356.out 2).trans rfl; have hcz162_3 : w158.cell? ⟨gb356, 3, none⟩ = some (.string (a3.extract 0 ((ji8) : Int).toNat)) := (blk_cell BK356.out 3).trans rfl; have hfz162_0 := blk_frozen BK356.out 0; have hfz162_1 := blk_frozen BK356.out 1; have hfz162_2 := blk_frozen BK356.out 2; have hfz162_3 := blk_frozen BK356.out 3) | ((with_reducible refine gate_callee (f := 25) rfl ?_); refine goesL_ (some 91) rfl rfl Try.func25 (by kernel_rfl) rfl #[.agg #[.int .i64 (wrap64 (a0)), .int .i64 (wrap64 (a1)), .int .u32 a2, .string (a3.extract 0 ((ji8) : Int).toNat)]] rfl (by (try simp only [List.map_toArray, List.map_cons, List.map_nil]); first | done | (simp only [hji8]; rfl) | rfl | (simp only [List.length_drop, List.length_take]; rfl)) ?_; (with_reducible refine (icmp_MTU.calls (wrap64 (a0)) (wrap64 (a1)) a2 (a3.extract 0 ((ji8) : Int).toNat) t389 true _ A137.out).mono ?_); rintro e w163 ⟨rfl, hb⟩; (try clear A137); refine ⟨_, rfl, ?_⟩; have n0_ := Aside0.mk (Kb.Q_below (by (with_reducible repeat (first | apply Kb.Q_alloc | apply Kb.Q_drewN | apply Kb.Q_drew)); exact (Kb.Q_mono (Kb.Q_far (p := ⟨gb388, 3, none⟩) (Kb.Q_far (p := ⟨gb388, 2, none⟩) (Kb.Q_far (p := ⟨gb388, 1, none⟩) (Kb.Q_far (p := ⟨gb388, 0, none⟩) (Kb.Q_types HO380.out BK388.out (by decide)) (fun _ hk => hk.2) (.int .i64 t383)) (fun _ hk => hk.2) (.int .i64 t384)) (fun _ hk => hk.2) (.int .u32 t385)) (fun _ hk => hk.2) (.string t386)) (fun _ h_ => h_.1))) hb); have n1_ := Aside0.mk (blk_below (g := gb356) (o := .cells #[.int .i64 (wrap64 (a0)), .int .i64 (wrap64 (a1)), .int .u32 a2, .string (a3.extract 0 ((ji8) : Int).toNat)] 45 (0, 0)) (by (with_reducible repeat (first | refine blk_drewN ?_ _ | refine blk_drew ?_ | refine blk_alloc ?_ _)); refine blk_far ?_ NB356_388.out _; (with_reducible repeat (first | refine blk_drewN ?_ _ | refine blk_drew ?_ | refine blk_alloc ?_ _)); refine blk_far ?_ NB356_388.out _; (with_reducible repeat (first | refine blk_drewN ?_ _ | refine blk_drew ?_ | refine blk_alloc ?_ _)); refine blk_far ?_ NB356_388.out _; (with_reducible repeat (first | refine blk_drewN ?_ _ | refine blk_drew ?_ | refine blk_alloc ?_ _)); refine blk_far ?_ NB356_388.out _; (with_reducible repeat (first | refine blk_drewN ?_ _ | refine blk_drew ?_ | refine blk_alloc ?_ _)); exact BK356.out) hb); have n2_ := Aside0.mk (blk_below (g := gb364) (o := .cells #[.int .i64 t359, .int .i64 t360, .int .u32 t361, .string t362] 45 (0, 0)) (by (with_reducible repeat (first | refine blk_drewN ?_ _ | refine blk_drew ?_ | refine blk_alloc ?_ _)); refine blk_far ?_ NB364_388.out _; (with_reducible repeat (first | refine blk_drewN ?_ _ | refine blk_drew ?_ | refine blk_alloc ?_ _)); refine blk_far ?_ NB364_388.out _; (with_reducible repeat (first | refine blk_drewN ?_ _ | refine blk_drew ?_ | refine blk_alloc ?_ _)); refine blk_far ?_ NB364_388.out _; (with_reducible repeat (first | refine blk_drewN ?_ _ | refine blk_drew ?_ | refine blk_alloc ?_ _)); refine blk_far ?_ NB364_388.out _; (with_reducible repeat (first | refine blk_drewN ?_ _ | refine blk_drew ?_ | refine blk_alloc ?_ _)); exact BK364.out) hb); have n3_ := Aside0.mk (blk_below (g := gb388) (o := .cells #[.int .i64 t383, .int .i64 t384, .int .u32 t385, .string t386] 45 (0, 0)) (by (with_reducible repeat (first | refine blk_drewN ?_ _ | refine blk_drew ?_ | refine blk_alloc ?_ _)); refine blk_put (cs := #[.int .i64 t383, .int .i64 t384, .int .u32 t385, .string (⟨#[]⟩ : ByteArray)]) ?_ 3 _ rfl; (with_reducible repeat (first | refine blk_drewN ?_ _ | refine blk_drew ?_ | refine blk_alloc ?_ _)); refine blk_put (cs := #[.int .i64 t383, .int .i64 t384, .int .u32 0, .string (⟨#[]⟩ : ByteArray)]) ?_ 2 _ rfl; (with_reducible repeat (first | refine blk_drewN ?_ _ | refine blk_drew ?_ | refine blk_alloc ?_ _)); refine blk_put (cs := #[.int .i64 t383, .int .i64 0, .int .u32 0, .string (⟨#[]⟩ : ByteArray)]) ?_ 1 _ rfl; (with_reducible repeat (first | refine blk_drewN ?_ _ | refine blk_drew ?_ | refine blk_alloc ?_ _)); refine blk_put (cs := #[.int .i64 0, .int .i64 0, .int .u32 0, .string (⟨#[]⟩ : ByteArray)]) ?_ 0 _ rfl; (with_reducible repeat (first | refine blk_drewN ?_ _ | refine blk_drew ?_ | refine blk_alloc ?_ _)); exact BK388.out) hb); have n4_ := Aside0.mk (below_step (by repeat (first | (with_reducible first | exact HB.out | apply below_alloc | apply pw_below_drewN | apply below_drew1 | refine below_set ?_ GE356.out | refine below_set ?_ GE364.out | refine below_set ?_ GE388.out) | exact HB.out)) hb); clear HO380; clear BK356; clear BK364; clear BK388; clear HB; have HO380 := n0_; have BK356 := n1_; have BK364 := n2_; have BK388 := n3_; have HB := n4_; clear n0_ n1_ n2_ n3_ n4_; (try clear hb); (try clear hb2); (try clear hk); (try clear hi); have hcz164_0 : w163.cell? ⟨gb364, 0, none⟩ = some (.int .i64 t359) := (blk_cell BK364.out 0).trans rfl; have hcz164_1 : w163.cell? ⟨gb364, 1, none⟩ = some (.int .i64 t360) := (blk_cell BK364.out 1).trans rfl; have hcz164_2 : w163.cell? ⟨gb364, 2, none⟩ = some (.int .u32 t361) := (blk_cell BK364.out 2).trans rfl; have hcz164_3 : w163.cell? ⟨gb364, 3, none⟩ = some (.string t362) := (blk_cell BK364.out 3).trans rfl; have hfz164_0 := blk_frozen BK364.out 0; have hfz164_1 := blk_frozen BK364.out 1; have hfz164_2 := blk_frozen BK364.out 2; have hfz164_3 := blk_frozen BK364.out 3; have hcz165_0 : w163.cell? ⟨gb356, 0, none⟩ = some (.int .i64 (wrap64 (a0))) := (blk_cell BK356.out 0).trans rfl; have hcz165_1 : w163.cell? ⟨gb356, 1, none⟩ = some (.int .i64 (wrap64 (a1))) := (blk_cell BK356.out 1).trans rfl; have hcz165_2 : w163.cell? ⟨gb356, 2, none⟩ = some (.int .u32 a2) := (blk_cell BK356.out 2).trans rfl; have hcz165_3 : w163.cell? ⟨gb356, 3, none⟩ = some (.string (a3.extract 0 ((ji8) : Int).toNat)) := (blk_cell BK356.out 3).trans rfl; have hfz165_0 := blk_frozen BK356.out 0; have hfz165_1 := blk_frozen BK356.out 1; have hfz165_2 := blk_frozen BK356.out 2; have hfz165_3 := blk_frozen BK356.out 3; have hcz166_0 : w163.cell? ⟨gb388, 0, none⟩ = some (.int .i64 t383) := (blk_cell BK388.out 0).trans rfl; have hcz166_1 : w163.cell? ⟨gb388, 1, none⟩ = some (.int .i64 t384) := (blk_cell BK388.out 1).trans rfl; have hcz166_2 : w163.cell? ⟨gb388, 2, none⟩ = some (.int .u32 t385) := (blk_cell BK388.out 2).trans rfl; have hcz166_3 : w163.cell? ⟨gb388, 3, none⟩ = some (.string t386) := (blk_cell BK388.out 3).trans rfl; have hfz166_0 := blk_frozen BK388.out 0; have hfz166_1 := blk_frozen BK388.out 1; have hfz166_2 := blk_frozen BK388.out 2; have hfz166_3 := blk_frozen BK388.out 3))
                                          go_ret
                                          exact ⟨by first | rfl | (simp [errW_none, errW_some] <;> rfl) | (simp only [← hji8, ← hji129, ← hji132, ← hji134]; first | rfl | (simp [errW_none, errW_some] <;> rfl)) | (simp [*, errW_none, errW_some] <;> rfl), by repeat (first | (with_reducible first | exact HB.out | apply below_alloc | apply pw_below_drewN | apply below_drew1 | refine below_set ?_ GE356.out | refine below_set ?_ GE364.out | refine below_set ?_ GE388.out) | exact HB.out)⟩
                                        · replace c145 := Bool.eq_false_iff.mpr c145
                                          subst c145
                                          have H1 : (some true) = some r := by rw [if_neg (show ¬ (false = true) by decide)] at H; exact H
                                          clear H
                                          have H := H1
                                          clear H1
                                          obtain rfl := Option.some.inj H
                                          try go_wp2_with (first | ((with_reducible refine gate_callee (f := 29) rfl ?_); refine goesL_ (some 54) rfl rfl Try.func29 (by kernel_rfl) rfl #[.string t357] rfl (by (try simp only [List.map_toArray, List.map_cons, List.map_nil]); first | done | rfl | (simp only [List.length_drop, List.length_take]; rfl)) ?_; (with_reducible refine (icmp_Parse.calls t357 t359 t360 t361 t362 t363 _ A20.out).mono ?_); rintro e w167 ⟨rfl, hb⟩; (try clear A20); refine ⟨_, rfl, ?_⟩; have n0_ := Aside0.mk (blk_below (g := gb356) (o := .cells #[.int .i64 (wrap64 (a0)), .int .i64 (wrap64 (a1)), .int .u32 a2, .string (a3.extract 0 ((ji8) : Int).toNat)] 45 (0, 0)) (by (with_reducible repeat (first | refine blk_drewN ?_ _ | refine blk_drew ?_ | refine blk_alloc ?_ _)); exact BK356.out) hb); have n1_ := Aside0.mk (below_step (by repeat (first | (with_reducible first | exact HB.out | apply below_alloc | apply pw_below_drewN | apply below_drew1 | refine below_set ?_ GE356.out) | exact HB.out)) hb); clear BK356; clear HB; have BK356 := n0_; have HB := n1_; clear n0_ n1_; (try clear hb); (try clear hb2); (try clear hk); (try clear hi)) | ((with_reducible refine gate_dst (N := 15) rfl ?_); (try (refine gate_guard (by rfl) ?_; dsimp only)); refine box_event ?hg (N := 15) ?hd (cs := #[.int .i64 0, .int .i64 0, .int .u32 0, .string (⟨#[]⟩ : ByteArray)]) (t := 45) ?hr ?_; (case hd => rfl); (case hg => rfl); (case hr => first | (go_simp; done) | (go_simp; rfl)); intro gb364 hg w168 hbox hb; have n0_ := Aside0.mk (blk_below (g := gb356) (o := .cells #[.int .i64 (wrap64 (a0)), .int .i64 (wrap64 (a1)), .int .u32 a2, .string (a3.extract 0 ((ji8) : Int).toNat)] 45 (0, 0)) (by (with_reducible repeat (first | refine blk_drewN ?_ _ | refine blk_drew ?_ | refine blk_alloc ?_ _)); exact BK356.out) hb); have n1_ := Aside0.mk (below_step (by repeat (first | (with_reducible first | exact HB.out | apply below_alloc | apply pw_below_drewN | apply below_drew1 | refine below_set ?_ GE356.out) | exact HB.out)) hb); have n2_ := Aside0.mk (hbox); have n3_ := Aside0.mk ((by rw [hg]; exact (below_size (by repeat (first | (with_reducible first | exact HB.out | apply below_alloc | apply pw_below_drewN | apply below_drew1 | refine below_set ?_ GE356.out) | exact HB.out))) : w.heap.size ≤ gb364)); have n4_ := Aside0.mk ((by rw [hg]; exact (below_size (by repeat (first | (with_reducible first | exact HB.out | apply below_alloc | apply pw_below_drewN | apply below_drew1 | refine below_set ?_ GE356.out) | exact HB.out))) : w.heap.size ≤ gb364)); have n5_ := Aside0.mk ((by rw [hg]; exact Nat.ne_of_lt (blk_lt (g := gb356) (o := .cells #[.int .i64 (wrap64 (a0)), .int .i64 (wrap64 (a1)), .int .u32 a2, .string (a3.extract 0 ((ji8) : Int).toNat)] 45 (0, 0)) (by (with_reducible repeat (first | refine blk_drewN ?_ _ | refine blk_drew ?_ | refine blk_alloc ?_ _)); exact BK356.out)) : gb356 ≠ gb364)); have n6_ := Aside0.mk ((by rw [hg]; exact Nat.ne_of_gt (blk_lt (g := gb356) (o := .cells #[.int .i64 (wrap64 (a0)), .int .i64 (wrap64 (a1)), .int .u32 a2, .string (a3.extract 0 ((ji8) : Int).toNat)] 45 (0, 0)) (by (with_reducible repeat (first | refine blk_drewN ?_ _ | refine blk_drew ?_ | refine blk_alloc ?_ _)); exact BK356.out)) : gb364 ≠ gb356)); clear BK356; clear HB; have BK356 := n0_; have HB := n1_; have BK364 := n2_; have GW364 := n3_; have GE364 := n4_; have NB356_364 := n5_; have NB364_356 := n6_; clear n0_ n1_ n2_ n3_ n4_ n5_ n6_; clear hb hbox hg; have hnb169 := NB364_356.out; have hnc169 := NB356_364.out; have hcz170_0 : w168.cell? ⟨gb364, 0, none⟩ = some (.int .i64 0) := (blk_cell BK364.out 0).trans rfl; have hcz170_1 : w168.cell? ⟨gb364, 1, none⟩ = some (.int .i64 0) := (blk_cell BK364.out 1).trans rfl; have hcz170_2 : w168.cell? ⟨gb364, 2, none⟩ = some (.int .u32 0) := (blk_cell BK364.out 2).trans rfl; have hcz170_3 : w168.cell? ⟨gb364, 3, none⟩ = some (.string (⟨#[]⟩ : ByteArray)) := (blk_cell BK364.out 3).trans rfl; have hfz170_0 := blk_frozen BK364.out 0; have hfz170_1 := blk_frozen BK364.out 1; have hfz170_2 := blk_frozen BK364.out 2; have hfz170_3 := blk_frozen BK364.out 3) | ((with_reducible refine gate_dst (N := 63) rfl ?_); (try (refine gate_guard (by rfl) ?_; dsimp only)); refine Kb.Q_conv (Kd.int .u8) 5 rfl (N := 63) rfl 9 38 _ rfl t357 rfl Try.underlying9 Try.underlying38 Try.underlying5 (ok := fun _ => True) trivial (of_decide_eq_true (by first | (with_reducible assumption) | assumption)) ?_; intro v379 w171 ho172 hb hg_ hnew_; clear hg_ hnew_; (first | rw [← Ny378.out] at ho172 | (simp only [Int.reduceToNat] at ho172; rw [← Ny378.out] at ho172)); have n0_ := Aside0.mk (Kb.Q_lower ho172 (below_size (by repeat (first | (with_reducible first | exact HB.out | apply below_alloc | apply pw_below_drewN | apply below_drew1 | refine below_set ?_ GE356.out | refine below_set ?_ GE364.out) | exact HB.out)))); have n1_ := Aside0.mk (blk_below (g := gb356) (o := .cells #[.int .i64 (wrap64 (a0)), .int .i64 (wrap64 (a1)), .int .u32 a2, .string (a3.extract 0 ((ji8) : Int).toNat)] 45 (0, 0)) (by (with_reducible repeat (first | refine blk_drewN ?_ _ | refine blk_drew ?_ | refine blk_alloc ?_ _)); refine blk_far ?_ NB356_364.out _; (with_reducible repeat (first | refine blk_drewN ?_ _ | refine blk_drew ?_ | refine blk_alloc ?_ _)); refine blk_far ?_ NB356_364.out _; (with_reducible repeat (first | refine blk_drewN ?_ _ | refine blk_drew ?_ | refine blk_alloc ?_ _)); refine blk_far ?_ NB356_364.out _; (with_reducible repeat (first | refine blk_drewN ?_ _ | refine blk_drew ?_ | refine blk_alloc ?_ _)); refine blk_far ?_ NB356_364.out _; (with_reducible repeat (first | refine blk_drewN ?_ _ | refine blk_drew ?_ | refine blk_alloc ?_ _)); exact BK356.out) hb); have n2_ := Aside0.mk (blk_below (g := gb364) (o := .cells #[.int .i64 t359, .int .i64 t360, .int .u32 t361, .string t362] 45 (0, 0)) (by (with_reducible repeat (first | refine blk_drewN ?_ _ | refine blk_drew ?_ | refine blk_alloc ?_ _)); refine blk_put (cs := #[.int .i64 t359, .int .i64 t360, .int .u32 t361, .string (⟨#[]⟩ : ByteArray)]) ?_ 3 _ rfl; (with_reducible repeat (first | refine blk_drewN ?_ _ | refine blk_drew ?_ | refine blk_alloc ?_ _)); refine blk_put (cs := #[.int .i64 t359, .int .i64 t360, .int .u32 0, .string (⟨#[]⟩ : ByteArray)]) ?_ 2 _ rfl; (with_reducible repeat (first | refine blk_drewN ?_ _ | refine blk_drew ?_ | refine blk_alloc ?_ _)); refine blk_put (cs := #[.int .i64 t359, .int .i64 0, .int .u32 0, .string (⟨#[]⟩ : ByteArray)]) ?_ 1 _ rfl; (with_reducible repeat (first | refine blk_drewN ?_ _ | refine blk_drew ?_ | refine blk_alloc ?_ _)); refine blk_put (cs := #[.int .i64 0, .int .i64 0, .int .u32 0, .string (⟨#[]⟩ : ByteArray)]) ?_ 0 _ rfl; (with_reducible repeat (first | refine blk_drewN ?_ _ | refine blk_drew ?_ | refine blk_alloc ?_ _)); exact BK364.out) hb); have n3_ := Aside0.mk (below_step (by repeat (first | (with_reducible first | exact HB.out | apply below_alloc | apply pw_below_drewN | apply below_drew1 | refine below_set ?_ GE356.out | refine below_set ?_ GE364.out) | exact HB.out)) hb); clear BK356; clear BK364; clear HB; have HO380 := n0_; have BK356 := n1_; have BK364 := n2_; have HB := n3_; clear n0_ n1_ n2_ n3_; clear hb ho172))
                                          have n0_ := Aside0.mk (Kb.Q_drew HO380.out)
                                          have n1_ := Aside0.mk (blk_drew BK356.out)
                                          have n2_ := Aside0.mk (blk_drew BK364.out)
                                          have n3_ := Aside0.mk (below_drew1 HB.out)
                                          clear HO380
                                          clear BK356
                                          clear BK364
                                          clear HB
                                          have HO380 := n0_
                                          have BK356 := n1_
                                          have BK364 := n2_
                                          have HB := n3_
                                          clear n0_ n1_ n2_ n3_
                                          obtain ⟨Ao174, co174, eo174, _⟩ := Kb.Q_slice HO380.out
                                          (first | subst eo174 | (injection eo174 with f1_ f2_ f3_; have f4_ := f1_.symm; have f5_ := f3_.symm; clear f1_ f2_ f3_; subst f4_; subst f5_))
                                          have p381 : 0 ≤ ((ji129) : Int) := of_decide_eq_true (by first | (with_reducible assumption) | assumption)
                                          have q381 : (ji129) < (y378.length : Int) := of_decide_eq_true (by first | (with_reducible assumption) | assumption)
                                          obtain ⟨ad381, e381, hx381_0⟩ := Kd.at_int (Kb.Q_reads' HO380.out).2.2 (ji129) p381 q381
                                          cases e381
                                          replace p381 := eq_true p381
                                          replace q381 := eq_true q381
                                          have p135 : 0 ≤ ((ji129) : Int) := of_decide_eq_true (by first | (with_reducible assumption) | assumption)
                                          have q135 : ((ji129) : Int) < ((y378.length : Int) : Int) := of_decide_eq_true (by first | (with_reducible assumption) | assumption)
                                          obtain ⟨go135, co135, eo135, gb135, gl135, cl135, HG135⟩ := Kb.Q_form HO380.out (by omega)
                                          (first | cases eo135 | (injection eo135 with ea_ en_ ec_; (first | subst ea_ | (injection ea_ with ea_; subst ea_)); subst ec_; clear en_))
                                          have GB135 := Aside0.mk gb135
                                          have GG135 := Aside0.mk HG135
                                          clear gb135 gl135 HG135
                                          (first | simp only [add_at, Nat.zero_add] at hx381_0 | skip)
                                          obtain ⟨hx135_0, hf135_0⟩ := Kb.Q_cell 0 HO380.out ((ji129) : Int) p135 q135
                                          replace p135 := eq_true p135
                                          replace q135 := eq_true q135
                                          have HP175 := (Kb.Q_putg HO380.out ((ji129) : Int) (of_decide_eq_true (by first | (with_reducible assumption) | assumption)) (by have h_ : ((ji129) : Int) < ((y378.length : Int) : Int) := of_decide_eq_true (by first | (with_reducible assumption) | assumption); first | exact h_ | (have e_ := (Kb.Q_reads' HO380.out).1; omega) | simpa using h_) (Go.bits .xor .u8 (rd y378 (ji129)) (ji134))).1
                                          rw [← Ny382.out] at HP175
                                          have HQ175 := Aside0.mk HP175
                                          clear HP175
                                          refine start_ (n := 20) (S := fun w' => w'.cell? ⟨go135, ((ji129)).toNat, none⟩ = some (.int .u8 (rd y378 (ji129)))) (ds := [19]) #[false, false, false, false, false, false, false, false, false, false, false, false, false, false, false, false, false, false, false, false] (by kernel_rfl) rfl rfl (hx381_0) (fun hHeld => ?_); refine with_tabW weighbridgelaw07_IcmpBack.tab12 weighbridgelaw07_IcmpBack.bits12 (fun HT_ HW_ => ?_)
                                          generalize w171.drew = w173 at HO380 BK356 BK364 HB GG135 HQ175 hf135_0 hx135_0 hx381_0 hHeld ⊢
                                          refine pure_ (i := 0) (N := some 64) (v := ?_) (a' := ?_) #[true, false, false, false, false, false, false, false, false, false, false, false, false, false, false, false, false, false, false, false] rfl rfl (any_of HT_.out (by kernel_rfl)) (fun _ _ _ h => h) (Or.inl ⟨by rfl, ?_⟩) ?_ ?_
                                          rotate_left
                                          · intro w'
                                            go_simp
                                            with_reducible rfl
                                          rotate_left
                                          · simp only [Act.put, List.setIfInBounds_toArray, List.set_cons_zero, List.set_cons_succ, i64_w, i32_w]
                                            rfl
                                          refine pure_ (i := 1) (N := some 65) (v := ?_) (a' := ?_) #[true, true, false, false, false, false, false, false, false, false, false, false, false, false, false, false, false, false, false, false] rfl rfl (any_of HT_.out (by kernel_rfl)) (fun _ _ _ h => h) (Or.inl ⟨by rfl, ?_⟩) ?_ ?_
                                          rotate_left
                                          · intro w'
                                            go_simp
                                            with_reducible rfl
                                          rotate_left
                                          · simp only [Act.put, List.setIfInBounds_toArray, List.set_cons_zero, List.set_cons_succ, i64_w, i32_w]
                                            rfl
                                          refine pure_ (i := 2) (N := some 66) (v := ?_) (a' := ?_) #[true, true, true, false, false, false, false, false, false, false, false, false, false, false, false, false, false, false, false, false] rfl rfl (any_of HT_.out (by kernel_rfl)) (fun _ _ _ h => h) (Or.inl ⟨by rfl, ?_⟩) ?_ ?_
                                          rotate_left
                                          · intro w'
                                            go_simp
                                            with_reducible rfl
                                          rotate_left
                                          · simp only [Act.put, List.setIfInBounds_toArray, List.set_cons_zero, List.set_cons_succ, i64_w, i32_w]
                                            rfl
                                          refine pure_ (i := 3) (N := some 67) (v := ?_) (a' := ?_) #[true, true, true, true, false, false, false, false, false, false, false, false, false, false, false, false, false, false, false, false] rfl rfl (any_of HT_.out (by kernel_rfl)) (fun _ _ _ h => h) (Or.inl ⟨by rfl, ?_⟩) ?_ ?_
                                          rotate_left
                                          · intro w'
                                            go_simp
                                            with_reducible rfl
                                          rotate_left
                                          · simp only [Act.put, List.setIfInBounds_toArray, List.set_cons_zero, List.set_cons_succ, i64_w, i32_w]
                                            rfl
                                          refine pure_ (i := 4) (N := some 68) (v := ?_) (a' := ?_) #[true, true, true, true, true, false, false, false, false, false, false, false, false, false, false, false, false, false, false, false] rfl rfl (any_of HT_.out (by kernel_rfl)) (fun _ _ _ h => h) (Or.inl ⟨by rfl, ?_⟩) ?_ ?_
                                          rotate_left
                                          · intro w'
                                            go_simp
                                            with_reducible rfl
                                          rotate_left
                                          · simp only [Act.put, List.setIfInBounds_toArray, List.set_cons_zero, List.set_cons_succ, i64_w, i32_w]
                                            rfl
                                          refine pure_ (i := 5) (N := some 69) (v := ?_) (a' := ?_) #[true, true, true, true, true, true, false, false, false, false, false, false, false, false, false, false, false, false, false, false] rfl rfl (any_of HT_.out (by kernel_rfl)) (fun _ _ _ h => h) (Or.inl ⟨by rfl, ?_⟩) ?_ ?_
                                          rotate_left
                                          · intro w'
                                            go_simp
                                            with_reducible rfl
                                          rotate_left
                                          · simp only [Act.put, List.setIfInBounds_toArray, List.set_cons_zero, List.set_cons_succ, i64_w, i32_w]
                                            rfl
                                          refine pure_ (i := 6) (N := some 70) (v := ?_) (a' := ?_) #[true, true, true, true, true, true, true, false, false, false, false, false, false, false, false, false, false, false, false, false] rfl rfl (any_of HT_.out (by kernel_rfl)) (fun _ _ _ h => h) (Or.inl ⟨by rfl, ?_⟩) ?_ ?_
                                          rotate_left
                                          · intro w'
                                            go_simp
                                            with_reducible rfl
                                          rotate_left
                                          · simp only [Act.put, List.setIfInBounds_toArray, List.set_cons_zero, List.set_cons_succ, i64_w, i32_w]
                                            rfl
                                          refine pure_ (i := 7) (N := some 71) (v := ?_) (a' := ?_) #[true, true, true, true, true, true, true, true, false, false, false, false, false, false, false, false, false, false, false, false] rfl rfl (any_of HT_.out (by kernel_rfl)) (fun _ _ _ h => h) (Or.inl ⟨by rfl, ?_⟩) ?_ ?_
                                          rotate_left
                                          · intro w'
                                            go_simp
                                            with_reducible rfl
                                          rotate_left
                                          · simp only [Act.put, List.setIfInBounds_toArray, List.set_cons_zero, List.set_cons_succ, i64_w, i32_w]
                                            rfl
                                          refine pure_ (i := 8) (N := some 72) (v := ?_) (a' := ?_) #[true, true, true, true, true, true, true, true, true, false, false, false, false, false, false, false, false, false, false, false] rfl rfl (any_of HT_.out (by kernel_rfl)) (fun _ _ _ h => h) (Or.inl ⟨by rfl, ?_⟩) ?_ ?_
                                          rotate_left
                                          · intro w'
                                            go_simp
                                            with_reducible rfl
                                          rotate_left
                                          · simp only [Act.put, List.setIfInBounds_toArray, List.set_cons_zero, List.set_cons_succ, i64_w, i32_w]
                                            rfl
                                          refine pure_ (i := 9) (N := some 73) (v := ?_) (a' := ?_) #[true, true, true, true, true, true, true, true, true, true, false, false, false, false, false, false, false, false, false, false] rfl rfl (any_of HT_.out (by kernel_rfl)) (fun _ _ _ h => h) (Or.inl ⟨by rfl, ?_⟩) ?_ ?_
                                          rotate_left
                                          · intro w'
                                            go_simp
                                            with_reducible rfl
                                          rotate_left
                                          · simp only [Act.put, List.setIfInBounds_toArray, List.set_cons_zero, List.set_cons_succ, i64_w, i32_w]
                                            rfl
                                          refine pure_ (i := 10) (N := some 74) (v := ?_) (a' := ?_) #[true, true, true, true, true, true, true, true, true, true, true, false, false, false, false, false, false, false, false, false] rfl rfl (any_of HT_.out (by kernel_rfl)) (fun _ _ _ h => h) (Or.inl ⟨by rfl, ?_⟩) ?_ ?_
                                          rotate_left
                                          · intro w'
                                            go_simp
                                            with_reducible rfl
                                          rotate_left
                                          · simp only [Act.put, List.setIfInBounds_toArray, List.set_cons_zero, List.set_cons_succ, i64_w, i32_w]
                                            rfl
                                          refine pure_ (i := 11) (N := some 75) (v := ?_) (a' := ?_) #[true, true, true, true, true, true, true, true, true, true, true, true, false, false, false, false, false, false, false, false] rfl rfl (any_of HT_.out (by kernel_rfl)) (fun _ _ _ h => h) (Or.inl ⟨by rfl, ?_⟩) ?_ ?_
                                          rotate_left
                                          · intro w'
                                            go_simp
                                            with_reducible rfl
                                          rotate_left
                                          · simp only [Act.put, List.setIfInBounds_toArray, List.set_cons_zero, List.set_cons_succ, i64_w, i32_w]
                                            rfl
                                          refine pure_ (i := 12) (N := some 76) (v := ?_) (a' := ?_) #[true, true, true, true, true, true, true, true, true, true, true, true, true, false, false, false, false, false, false, false] rfl rfl (any_of HT_.out (by kernel_rfl)) (fun _ _ _ h => h) (Or.inl ⟨by rfl, ?_⟩) ?_ ?_
                                          rotate_left
                                          · intro w'
                                            go_simp
                                            with_reducible rfl
                                          rotate_left
                                          · simp only [Act.put, List.setIfInBounds_toArray, List.set_cons_zero, List.set_cons_succ, i64_w, i32_w]
                                            rfl
                                          refine pure_ (i := 14) (N := some 78) (v := ?_) (a' := ?_) #[true, true, true, true, true, true, true, true, true, true, true, true, true, false, true, false, false, false, false, false] rfl rfl (any_of HT_.out (by kernel_rfl)) (fun _ _ _ h => h) (Or.inl ⟨by rfl, ?_⟩) ?_ ?_
                                          rotate_left
                                          · intro w'
                                            go_simp
                                            with_reducible rfl
                                          rotate_left
                                          · simp only [Act.put, List.setIfInBounds_toArray, List.set_cons_zero, List.set_cons_succ, i64_w, i32_w]
                                            rfl
                                          refine pure_ (i := 15) (N := some 79) (v := ?_) (a' := ?_) #[true, true, true, true, true, true, true, true, true, true, true, true, true, false, true, true, false, false, false, false] rfl rfl (any_of HT_.out (by kernel_rfl)) (fun _ _ _ h => h) (Or.inl ⟨by rfl, ?_⟩) ?_ ?_
                                          rotate_left
                                          · intro w'
                                            go_simp
                                            with_reducible rfl
                                          rotate_left
                                          · simp only [Act.put, List.setIfInBounds_toArray, List.set_cons_zero, List.set_cons_succ, i64_w, i32_w]
                                            rfl
                                          refine pure_ (i := 16) (N := some 80) (v := ?_) (a' := ?_) #[true, true, true, true, true, true, true, true, true, true, true, true, true, false, true, true, true, false, false, false] rfl rfl (any_of HT_.out (by kernel_rfl)) (fun _ _ _ h => h) (Or.inl ⟨by rfl, ?_⟩) ?_ ?_
                                          rotate_left
                                          · intro w'
                                            go_simp
                                            with_reducible rfl
                                          rotate_left
                                          · simp only [Act.put, List.setIfInBounds_toArray, List.set_cons_zero, List.set_cons_succ, i64_w, i32_w]
                                            rfl
                                          refine take_ (i := 13) (N := some 77) (v := ?_) (a' := ?_) #[true, true, true, true, true, true, true, true, true, true, true, true, true, true, true, true, true, false, false, false] rfl rfl (take_ofW HT_.out HW_.out (by kernel_rfl)) (fun _ _ _ h => h) (Or.inl ⟨by rfl, ?_⟩) hHeld ?_ ?_
                                          rotate_left
                                          · intro w' s0
                                            go_simp
                                            with_reducible rfl
                                          rotate_left
                                          · simp only [Act.put, List.setIfInBounds_toArray, List.set_cons_zero, List.set_cons_succ, i64_w, i32_w]
                                            rfl
                                          refine pure_ (i := 17) (N := some 81) (v := ?_) (a' := ?_) #[true, true, true, true, true, true, true, true, true, true, true, true, true, true, true, true, true, true, false, false] rfl rfl (any_of HT_.out (by kernel_rfl)) (fun _ _ _ h => h) (Or.inl ⟨by rfl, ?_⟩) ?_ ?_
                                          rotate_left
                                          · intro w'
                                            go_simp
                                            with_reducible rfl
                                          rotate_left
                                          · simp only [Act.put, List.setIfInBounds_toArray, List.set_cons_zero, List.set_cons_succ, i64_w, i32_w]
                                            rfl
                                          refine pure_ (i := 18) (N := some 82) (v := ?_) (a' := ?_) #[true, true, true, true, true, true, true, true, true, true, true, true, true, true, true, true, true, true, true, false] rfl rfl (any_of HT_.out (by kernel_rfl)) (fun _ _ _ h => h) (Or.inl ⟨by rfl, ?_⟩) ?_ ?_
                                          rotate_left
                                          · intro w'
                                            go_simp
                                            with_reducible rfl
                                          rotate_left
                                          · simp only [Act.put, List.setIfInBounds_toArray, List.set_cons_zero, List.set_cons_succ, i64_w, i32_w]
                                            rfl
                                          refine last_ (i := 19) (N := none) #[true, true, true, true, true, true, true, true, true, true, true, true, true, true, true, true, true, true, true, true] rfl rfl (one_of HT_.out (by kernel_rfl)) (by decide) (fun K hK => ?_)
                                          refine skip_ (w1 := ?_) (by rfl) rfl ?_ ?_
                                          rotate_left
                                          · go_simp
                                            rfl
                                          refine hK.out _ _ ?_
                                          clear hK K
                                          refine done_ (done_of HT_.out (by kernel_rfl)) ?_
                                          have n0_ : Aside0 (Kb.Q (Kd.int .u8) 5 (w173.setCell ⟨go135, ((ji129) : Int).toNat, none⟩ (.int .u8 (Go.bits .xor .u8 (rd y378 (ji129)) (ji134)))) w.heap.size (fun _ => True) (.slice (some ⟨go135, 0, none⟩) y378.length co174) y382) := ⟨by (with_reducible repeat (first | apply Kb.Q_alloc | apply Kb.Q_drewN | apply Kb.Q_drew)); exact HQ175.out⟩
                                          have n1_ : Aside0 ((w173.setCell ⟨go135, ((ji129) : Int).toNat, none⟩ (.int .u8 (Go.bits .xor .u8 (rd y378 (ji129)) (ji134)))).heap[gb356]? = some (.cells #[.int .i64 (wrap64 (a0)), .int .i64 (wrap64 (a1)), .int .u32 a2, .string (a3.extract 0 ((ji8) : Int).toNat)] 45 (0, 0))) := ⟨by (with_reducible repeat (first | refine blk_drewN ?_ _ | refine blk_drew ?_ | refine blk_alloc ?_ _)); refine blk_far ?_ (by have h_ := Kb.Q_ne HO380.out BK356.out (by decide); intro e_; exact h_ (by rw [e_]; rfl)) _; (with_reducible repeat (first | refine blk_drewN ?_ _ | refine blk_drew ?_ | refine blk_alloc ?_ _)); exact BK356.out⟩
                                          have n2_ : Aside0 ((w173.setCell ⟨go135, ((ji129) : Int).toNat, none⟩ (.int .u8 (Go.bits .xor .u8 (rd y378 (ji129)) (ji134)))).heap[gb364]? = some (.cells #[.int .i64 t359, .int .i64 t360, .int .u32 t361, .string t362] 45 (0, 0))) := ⟨by (with_reducible repeat (first | refine blk_drewN ?_ _ | refine blk_drew ?_ | refine blk_alloc ?_ _)); refine blk_far ?_ (by have h_ := Kb.Q_ne HO380.out BK364.out (by decide); intro e_; exact h_ (by rw [e_]; rfl)) _; (with_reducible repeat (first | refine blk_drewN ?_ _ | refine blk_drew ?_ | refine blk_alloc ?_ _)); exact BK364.out⟩
                                          have n3_ : Aside0 (Below w.heap.size w (w173.setCell ⟨go135, ((ji129) : Int).toNat, none⟩ (.int .u8 (Go.bits .xor .u8 (rd y378 (ji129)) (ji134))))) := ⟨by repeat (first | (with_reducible first | exact HB.out | apply below_alloc | apply pw_below_drewN | apply below_drew1 | refine below_set ?_ GB135.out | refine below_set ?_ GE356.out | refine below_set ?_ GE364.out) | exact HB.out)⟩
                                          (try clear HO380)
                                          (try clear BK356)
                                          (try clear BK364)
                                          (try clear HB)
                                          generalize (w173.setCell ⟨go135, ((ji129) : Int).toNat, none⟩ (.int .u8 (Go.bits .xor .u8 (rd y378 (ji129)) (ji134)))) = w176 at n0_ n1_ n2_ n3_ ⊢
                                          have HO380 := n0_
                                          have BK356 := n1_
                                          have BK364 := n2_
                                          have HB := n3_
                                          clear n0_ n1_ n2_ n3_
                                          have hcv177 := Kb.Q_string (P := Try.prog) Try.underlying38 Try.underlying5 Try.underlying9 (HO380.out)
                                          try go_wp2_with (first | ((with_reducible refine gate_callee (f := 29) rfl ?_); refine goesL_ (some 86) rfl rfl Try.func29 (by kernel_rfl) rfl #[.string (strOfNums y382)] rfl (by (try simp only [List.map_toArray, List.map_cons, List.map_nil]); first | done | rfl | (simp only [List.length_drop, List.length_take]; rfl)) ?_; (with_reducible refine (icmp_Parse.calls (strOfNums y382) t383 t384 t385 t386 t387 _ A136.out).mono ?_); rintro e w178 ⟨rfl, hb⟩; (try clear A136); refine ⟨_, rfl, ?_⟩; have n0_ := Aside0.mk (Kb.Q_below (by (with_reducible repeat (first | apply Kb.Q_alloc | apply Kb.Q_drewN | apply Kb.Q_drew)); exact HO380.out) hb); have n1_ := Aside0.mk (blk_below (g := gb356) (o := .cells #[.int .i64 (wrap64 (a0)), .int .i64 (wrap64 (a1)), .int .u32 a2, .string (a3.extract 0 ((ji8) : Int).toNat)] 45 (0, 0)) (by (with_reducible repeat (first | refine blk_drewN ?_ _ | refine blk_drew ?_ | refine blk_alloc ?_ _)); exact BK356.out) hb); have n2_ := Aside0.mk (blk_below (g := gb364) (o := .cells #[.int .i64 t359, .int .i64 t360, .int .u32 t361, .string t362] 45 (0, 0)) (by (with_reducible repeat (first | refine blk_drewN ?_ _ | refine blk_drew ?_ | refine blk_alloc ?_ _)); exact BK364.out) hb); have n3_ := Aside0.mk (below_step (by repeat (first | (with_reducible first | exact HB.out | apply below_alloc | apply pw_below_drewN | apply below_drew1 | refine below_set ?_ GE356.out | refine below_set ?_ GE364.out) | exact HB.out)) hb); clear HO380; clear BK356; clear BK364; clear HB; have HO380 := n0_; have BK356 := n1_; have BK364 := n2_; have HB := n3_; clear n0_ n1_ n2_ n3_; (try clear hb); (try clear hb2); (try clear hk); (try clear hi)) | ((with_reducible refine gate_dst (N := 18) rfl ?_); (try (refine gate_guard (by rfl) ?_; dsimp only)); refine box_event ?hg (N := 18) ?hd (cs := #[.int .i64 0, .int .i64 0, .int .u32 0, .string (⟨#[]⟩ : ByteArray)]) (t := 45) ?hr ?_; (case hd => rfl); (case hg => rfl); (case hr => first | (go_simp; done) | (go_simp; rfl)); intro gb388 hg w179 hbox hb; have n0_ := Aside0.mk (Kb.Q_below (by (with_reducible repeat (first | apply Kb.Q_alloc | apply Kb.Q_drewN | apply Kb.Q_drew)); exact HO380.out) hb); have n1_ := Aside0.mk (blk_below (g := gb356) (o := .cells #[.int .i64 (wrap64 (a0)), .int .i64 (wrap64 (a1)), .int .u32 a2, .string (a3.extract 0 ((ji8) : Int).toNat)] 45 (0, 0)) (by (with_reducible repeat (first | refine blk_drewN ?_ _ | refine blk_drew ?_ | refine blk_alloc ?_ _)); exact BK356.out) hb); have n2_ := Aside0.mk (blk_below (g := gb364) (o := .cells #[.int .i64 t359, .int .i64 t360, .int .u32 t361, .string t362] 45 (0, 0)) (by (with_reducible repeat (first | refine blk_drewN ?_ _ | refine blk_drew ?_ | refine blk_alloc ?_ _)); exact BK364.out) hb); have n3_ := Aside0.mk (below_step (by repeat (first | (with_reducible first | exact HB.out | apply below_alloc | apply pw_below_drewN | apply below_drew1 | refine below_set ?_ GE356.out | refine below_set ?_ GE364.out) | exact HB.out)) hb); have n4_ := Aside0.mk (hbox); have n5_ := Aside0.mk ((by rw [hg]; exact (below_size (by repeat (first | (with_reducible first | exact HB.out | apply below_alloc | apply pw_below_drewN | apply below_drew1 | refine below_set ?_ GE356.out | refine below_set ?_ GE364.out) | exact HB.out))) : w.heap.size ≤ gb388)); have n6_ := Aside0.mk ((by rw [hg]; exact (below_size (by repeat (first | (with_reducible first | exact HB.out | apply below_alloc | apply pw_below_drewN | apply below_drew1 | refine below_set ?_ GE356.out | refine below_set ?_ GE364.out) | exact HB.out))) : w.heap.size ≤ gb388)); have n7_ := Aside0.mk ((by rw [hg]; exact Nat.ne_of_lt (blk_lt (g := gb356) (o := .cells #[.int .i64 (wrap64 (a0)), .int .i64 (wrap64 (a1)), .int .u32 a2, .string (a3.extract 0 ((ji8) : Int).toNat)] 45 (0, 0)) (by (with_reducible repeat (first | refine blk_drewN ?_ _ | refine blk_drew ?_ | refine blk_alloc ?_ _)); exact BK356.out)) : gb356 ≠ gb388)); have n8_ := Aside0.mk ((by rw [hg]; exact Nat.ne_of_gt (blk_lt (g := gb356) (o := .cells #[.int .i64 (wrap64 (a0)), .int .i64 (wrap64 (a1)), .int .u32 a2, .string (a3.extract 0 ((ji8) : Int).toNat)] 45 (0, 0)) (by (with_reducible repeat (first | refine blk_drewN ?_ _ | refine blk_drew ?_ | refine blk_alloc ?_ _)); exact BK356.out)) : gb388 ≠ gb356)); have n9_ := Aside0.mk ((by rw [hg]; exact Nat.ne_of_lt (blk_lt (g := gb364) (o := .cells #[.int .i64 t359, .int .i64 t360, .int .u32 t361, .string t362] 45 (0, 0)) (by (with_reducible repeat (first | refine blk_drewN ?_ _ | refine blk_drew ?_ | refine blk_alloc ?_ _)); exact BK364.out)) : gb364 ≠ gb388)); have n10_ := Aside0.mk ((by rw [hg]; exact Nat.ne_of_gt (blk_lt (g := gb364) (o := .cells #[.int .i64 t359, .int .i64 t360, .int .u32 t361, .string t362] 45 (0, 0)) (by (with_reducible repeat (first | refine blk_drewN ?_ _ | refine blk_drew ?_ | refine blk_alloc ?_ _)); exact BK364.out)) : gb388 ≠ gb364)); clear HO380; clear BK356; clear BK364; clear HB; have HO380 := n0_; have BK356 := n1_; have BK364 := n2_; have HB := n3_; have BK388 := n4_; have GW388 := n5_; have GE388 := n6_; have NB356_388 := n7_; have NB388_356 := n8_; have NB364_388 := n9_; have NB388_364 := n10_; clear n0_ n1_ n2_ n3_ n4_ n5_ n6_ n7_ n8_ n9_ n10_; clear hb hbox hg; have hnb180 := NB388_356.out; have hnc180 := NB356_388.out; have hnb181 := NB388_364.out; have hnc181 := NB364_388.out; have hcz182_0 : w179.cell? ⟨gb388, 0, none⟩ = some (.int .i64 0) := (blk_cell BK388.out 0).trans rfl; have hcz182_1 : w179.cell? ⟨gb388, 1, none⟩ = some (.int .i64 0) := (blk_cell BK388.out 1).trans rfl; have hcz182_2 : w179.cell? ⟨gb388, 2, none⟩ = some (.int .u32 0) := (blk_cell BK388.out 2).trans rfl; have hcz182_3 : w179.cell? ⟨gb388, 3, none⟩ = some (.string (⟨#[]⟩ : ByteArray)) := (blk_cell BK388.out 3).trans rfl; have hfz182_0 := blk_frozen BK388.out 0; have hfz182_1 := blk_frozen BK388.out 1; have hfz182_2 := blk_frozen BK388.out 2; have hfz182_3 := blk_frozen BK388.out 3; have hcz183_0 : w179.cell? ⟨gb356, 0, none⟩ = some (.int .i64 (wrap64 (a0))) := (blk_cell BK356.out 0).trans rfl; have hcz183_1 : w179.cell? ⟨gb356, 1, none⟩ = some (.int .i64 (wrap64 (a1))) := (blk_cell BK356.out 1).trans rfl; have hcz183_2 : w179.cell? ⟨gb356, 2, none⟩ = some (.int .u32 a2) := (blk_cell BK356.out 2).trans rfl; have hcz183_3 : w179.cell? ⟨gb356, 3, none⟩ = some (.string (a3.extract 0 ((ji8) : Int).toNat)) := (blk_cell BK356.out 3).trans rfl; have hfz183_0 := blk_frozen BK356.out 0; have hfz183_1 := blk_frozen BK356.out 1; have hfz183_2 := blk_frozen BK356.out 2; have hfz183_3 := blk_frozen BK356.out 3) | ((with_reducible refine gate_callee (f := 25) rfl ?_); refine goesL_ (some 91) rfl rfl Try.func25 (by kernel_rfl) rfl #[.agg #[.int .i64 (wrap64 (a0)), .int .i64 (wrap64 (a1)), .int .u32 a2, .string (a3.extract 0 ((ji8) : Int).toNat)]] rfl (by (try simp only [List.map_toArray, List.map_cons, List.map_nil]); first | done | (simp only [hji8]; rfl) | rfl | (simp only [List.length_drop, List.length_take]; rfl)) ?_; (with_reducible refine (icmp_MTU.calls (wrap64 (a0)) (wrap64 (a1)) a2 (a3.extract 0 ((ji8) : Int).toNat) t389 false _ A137.out).mono ?_); rintro e w184 ⟨rfl, hb⟩; (try clear A137); refine ⟨_, rfl, ?_⟩; have n0_ := Aside0.mk (Kb.Q_below (by (with_reducible repeat (first | apply Kb.Q_alloc | apply Kb.Q_drewN | apply Kb.Q_drew)); exact (Kb.Q_mono (Kb.Q_far (p := ⟨gb388, 3, none⟩) (Kb.Q_far (p := ⟨gb388, 2, none⟩) (Kb.Q_far (p := ⟨gb388, 1, none⟩) (Kb.Q_far (p := ⟨gb388, 0, none⟩) (Kb.Q_types HO380.out BK388.out (by decide)) (fun _ hk => hk.2) (.int .i64 t383)) (fun _ hk => hk.2) (.int .i64 t384)) (fun _ hk => hk.2) (.int .u32 t385)) (fun _ hk => hk.2) (.string t386)) (fun _ h_ => h_.1))) hb); have n1_ := Aside0.mk (blk_below (g := gb356) (o := .cells #[.int .i64 (wrap64 (a0)), .int .i64 (wrap64 (a1)), .int .u32 a2, .string (a3.extract 0 ((ji8) : Int).toNat)] 45 (0, 0)) (by (with_reducible repeat (first | refine blk_drewN ?_ _ | refine blk_drew ?_ | refine blk_alloc ?_ _)); refine blk_far ?_ NB356_388.out _; (with_reducible repeat (first | refine blk_drewN ?_ _ | refine blk_drew ?_ | refine blk_alloc ?_ _)); refine blk_far ?_ NB356_388.out _; (with_reducible repeat (first | refine blk_drewN ?_ _ | refine blk_drew ?_ | refine blk_alloc ?_ _)); refine blk_far ?_ NB356_388.out _; (with_reducible repeat (first | refine blk_drewN ?_ _ | refine blk_drew ?_ | refine blk_alloc ?_ _)); refine blk_far ?_ NB356_388.out _; (with_reducible repeat (first | refine blk_drewN ?_ _ | refine blk_drew ?_ | refine blk_alloc ?_ _)); exact BK356.out) hb); have n2_ := Aside0.mk (blk_below (g := gb364) (o := .cells #[.int .i64 t359, .int .i64 t360, .int .u32 t361, .string t362] 45 (0, 0)) (by (with_reducible repeat (first | refine blk_drewN ?_ _ | refine blk_drew ?_ | refine blk_alloc ?_ _)); refine blk_far ?_ NB364_388.out _; (with_reducible repeat (first | refine blk_drewN ?_ _ | refine blk_drew ?_ | refine blk_alloc ?_ _)); refine blk_far ?_ NB364_388.out _; (with_reducible repeat (first | refine blk_drewN ?_ _ | refine blk_drew ?_ | refine blk_alloc ?_ _)); refine blk_far ?_ NB364_388.out _; (with_reducible repeat (first | refine blk_drewN ?_ _ | refine blk_drew ?_ | refine blk_alloc ?_ _)); refine blk_far ?_ NB364_388.out _; (with_reducible repeat (first | refine blk_drewN ?_ _ | refine blk_drew ?_ | refine blk_alloc ?_ _)); exact BK364.out) hb); have n3_ := Aside0.mk (blk_below (g := gb388) (o := .cells #[.int .i64 t383, .int .i64 t384, .int .u32 t385, .string t386] 45 (0, 0)) (by (with_reducible repeat (first | refine blk_drewN ?_ _ | refine blk_drew ?_ | refine blk_alloc ?_ _)); refine blk_put (cs := #[.int .i64 t383, .int .i64 t384, .int .u32 t385, .string (⟨#[]⟩ : ByteArray)]) ?_ 3 _ rfl; (with_reducible repeat (first | refine blk_drewN ?_ _ | refine blk_drew ?_ | refine blk_alloc ?_ _)); refine blk_put (cs := #[.int .i64 t383, .int .i64 t384, .int .u32 0, .string (⟨#[]⟩ : ByteArray)]) ?_ 2 _ rfl; (with_reducible repeat (first | refine blk_drewN ?_ _ | refine blk_drew ?_ | refine blk_alloc ?_ _)); refine blk_put (cs := #[.int .i64 t383, .int .i64 0, .int .u32 0, .string (⟨#[]⟩ : ByteArray)]) ?_ 1 _ rfl; (with_reducible repeat (first | refine blk_drewN ?_ _ | refine blk_drew ?_ | refine blk_alloc ?_ _)); refine blk_put (cs := #[.int .i64 0, .int .i64 0, .int .u32 0, .string (⟨#[]⟩ : ByteArray)]) ?_ 0 _ rfl; (with_reducible repeat (first | refine blk_drewN ?_ _ | refine blk_drew ?_ | refine blk_alloc ?_ _)); exact BK388.out) hb); have n4_ := Aside0.mk (below_step (by repeat (first | (with_reducible first | exact HB.out | apply below_alloc | apply pw_below_drewN | apply below_drew1 | refine below_set ?_ GE356.out | refine below_set ?_ GE364.out | refine below_set ?_ GE388.out) | exact HB.out)) hb); clear HO380; clear BK356; clear BK364; clear BK388; clear HB; have HO380 := n0_; have BK356 := n1_; have BK364 := n2_; have BK388 := n3_; have HB := n4_; clear n0_ n1_ n2_ n3_ n4_; (try clear hb); (try clear hb2); (try clear hk); (try clear hi); have hcz185_0 : w184.cell? ⟨gb364, 0, none⟩ = some (.int .i64 t359) := (blk_cell BK364.out 0).trans rfl; have hcz185_1 : w184.cell? ⟨gb364, 1, none⟩ = some (.int .i64 t360) := (blk_cell BK364.out 1).trans rfl; have hcz185_2 : w184.cell? ⟨gb364, 2, none⟩ = some (.int .u32 t361) := (blk_cell BK364.out 2).trans rfl; have hcz185_3 : w184.cell? ⟨gb364, 3, none⟩ = some (.string t362) := (blk_cell BK364.out 3).trans rfl; have hfz185_0 := blk_frozen BK364.out 0; have hfz185_1 := blk_frozen BK364.out 1; have hfz185_2 := blk_frozen BK364.out 2; have hfz185_3 := blk_frozen BK364.out 3; have hcz186_0 : w184.cell? ⟨gb356, 0, none⟩ = some (.int .i64 (wrap64 (a0))) := (blk_cell BK356.out 0).trans rfl; have hcz186_1 : w184.cell? ⟨gb356, 1, none⟩ = some (.int .i64 (wrap64 (a1))) := (blk_cell BK356.out 1).trans rfl; have hcz186_2 : w184.cell? ⟨gb356, 2, none⟩ = some (.int .u32 a2) := (blk_cell BK356.out 2).trans rfl; have hcz186_3 : w184.cell? ⟨gb356, 3, none⟩ = some (.string (a3.extract 0 ((ji8) : Int).toNat)) := (blk_cell BK356.out 3).trans rfl; have hfz186_0 := blk_frozen BK356.out 0; have hfz186_1 := blk_frozen BK356.out 1; have hfz186_2 := blk_frozen BK356.out 2; have hfz186_3 := blk_frozen BK356.out 3; have hcz187_0 : w184.cell? ⟨gb388, 0, none⟩ = some (.int .i64 t383) := (blk_cell BK388.out 0).trans rfl; have hcz187_1 : w184.cell? ⟨gb388, 1, none⟩ = some (.int .i64 t384) := (blk_cell BK388.out 1).trans rfl; have hcz187_2 : w184.cell? ⟨gb388, 2, none⟩ = some (.int .u32 t385) := (blk_cell BK388.out 2).trans rfl; have hcz187_3 : w184.cell? ⟨gb388, 3, none⟩ = some (.string t386) := (blk_cell BK388.out 3).trans rfl; have hfz187_0 := blk_frozen BK388.out 0; have hfz187_1 := blk_frozen BK388.out 1; have hfz187_2 := blk_frozen BK388.out 2; have hfz187_3 := blk_frozen BK388.out 3))
                                          go_ret
                                          exact ⟨by first | rfl | (simp [errW_none, errW_some] <;> rfl) | (simp only [← hji8, ← hji129, ← hji132, ← hji134]; first | rfl | (simp [errW_none, errW_some] <;> rfl)) | (simp [*, errW_none, errW_some] <;> rfl), by repeat (first | (with_reducible first | exact HB.out | apply below_alloc | apply pw_below_drewN | apply below_drew1 | refine below_set ?_ GE356.out | refine below_set ?_ GE364.out | refine below_set ?_ GE388.out) | exact HB.out)⟩
                                      · rw [if_neg c144] at H
                                        have c144b0 : (t390 == (a1 == 4)) = false := by simpa using c144
                                        (try (have c144b1 : decide (t390 = (a1 == 4)) = false := by simpa using c144))
                                        (try (have c144b2 : (t390 == (a1 == 4)) = false := by simpa using c144))
                                        (try (have c144b3 : ¬ (t390 = (a1 == 4)) := by simpa using c144))
                                        clear c144
                                        exact absurd ((Option.some.inj H).trans hr_) (by decide)
                                    · rw [if_neg c143] at H
                                      have c143b0 : (a0 == 3) = false := beq_eq_false_iff_ne.mpr c143
                                      have c143b1 : (a0 != 3) = true := bne_iff_ne.mpr c143
                                      by_cases c188 : (t390 == false) = true
                                      · rw [if_pos c188] at H
                                        have c188b0 : (t390 == false) = true := c188
                                        (try (have c188b1 : decide (t390 = false) = true := by simpa using c188))
                                        (try (have c188b2 : (t390 == false) = true := by simpa using c188))
                                        clear c188
                                        by_cases c189 : t390 = true
                                        · subst c189
                                          have H1 : (some (t389 == (wrap64 (Int.tmod a2 65536)))) = some r := by rw [if_pos rfl] at H; exact H
                                          clear H
                                          have H := H1
                                          clear H1
                                          obtain rfl := Option.some.inj H
                                          try go_wp2_with (first | ((with_reducible refine gate_callee (f := 29) rfl ?_); refine goesL_ (some 54) rfl rfl Try.func29 (by kernel_rfl) rfl #[.string t357] rfl (by (try simp only [List.map_toArray, List.map_cons, List.map_nil]); first | done | rfl | (simp only [List.length_drop, List.length_take]; rfl)) ?_; (with_reducible refine (icmp_Parse.calls t357 t359 t360 t361 t362 t363 _ A20.out).mono ?_); rintro e w190 ⟨rfl, hb⟩; (try clear A20); refine ⟨_, rfl, ?_⟩; have n0_ := Aside0.mk (blk_below (g := gb356) (o := .cells #[.int .i64 (wrap64 (a0)), .int .i64 (wrap64 (a1)), .int .u32 a2, .string (a3.extract 0 ((ji8) : Int).toNat)] 45 (0, 0)) (by (with_reducible repeat (first | refine blk_drewN ?_ _ | refine blk_drew ?_ | refine blk_alloc ?_ _)); exact BK356.out) hb); have n1_ := Aside0.mk (below_step (by repeat (first | (with_reducible first | exact HB.out | apply below_alloc | apply pw_below_drewN | apply below_drew1 | refine below_set ?_ GE356.out) | exact HB.out)) hb); clear BK356; clear HB; have BK356 := n0_; have HB := n1_; clear n0_ n1_; (try clear hb); (try clear hb2); (try clear hk); (try clear hi)) | ((with_reducible refine gate_dst (N := 15) rfl ?_); (try (refine gate_guard (by rfl) ?_; dsimp only)); refine box_event ?hg (N := 15) ?hd (cs := #[.int .i64 0, .int .i64 0, .int .u32 0, .string (⟨#[]⟩ : ByteArray)]) (t := 45) ?hr ?_; (case hd => rfl); (case hg => rfl); (case hr => first | (go_simp; done) | (go_simp; rfl)); intro gb364 hg w191 hbox hb; have n0_ := Aside0.mk (blk_below (g := gb356) (o := .cells #[.int .i64 (wrap64 (a0)), .int .i64 (wrap64 (a1)), .int .u32 a2, .string (a3.extract 0 ((ji8) : Int).toNat)] 45 (0, 0)) (by (with_reducible repeat (first | refine blk_drewN ?_ _ | refine blk_drew ?_ | refine blk_alloc ?_ _)); exact BK356.out) hb); have n1_ := Aside0.mk (below_step (by repeat (first | (with_reducible first | exact HB.out | apply below_alloc | apply pw_below_drewN | apply below_drew1 | refine below_set ?_ GE356.out) | exact HB.out)) hb); have n2_ := Aside0.mk (hbox); have n3_ := Aside0.mk ((by rw [hg]; exact (below_size (by repeat (first | (with_reducible first | exact HB.out | apply below_alloc | apply pw_below_drewN | apply below_drew1 | refine below_set ?_ GE356.out) | exact HB.out))) : w.heap.size ≤ gb364)); have n4_ := Aside0.mk ((by rw [hg]; exact (below_size (by repeat (first | (with_reducible first | exact HB.out | apply below_alloc | apply pw_below_drewN | apply below_drew1 | refine below_set ?_ GE356.out) | exact HB.out))) : w.heap.size ≤ gb364)); have n5_ := Aside0.mk ((by rw [hg]; exact Nat.ne_of_lt (blk_lt (g := gb356) (o := .cells #[.int .i64 (wrap64 (a0)), .int .i64 (wrap64 (a1)), .int .u32 a2, .string (a3.extract 0 ((ji8) : Int).toNat)] 45 (0, 0)) (by (with_reducible repeat (first | refine blk_drewN ?_ _ | refine blk_drew ?_ | refine blk_alloc ?_ _)); exact BK356.out)) : gb356 ≠ gb364)); have n6_ := Aside0.mk ((by rw [hg]; exact Nat.ne_of_gt (blk_lt (g := gb356) (o := .cells #[.int .i64 (wrap64 (a0)), .int .i64 (wrap64 (a1)), .int .u32 a2, .string (a3.extract 0 ((ji8) : Int).toNat)] 45 (0, 0)) (by (with_reducible repeat (first | refine blk_drewN ?_ _ | refine blk_drew ?_ | refine blk_alloc ?_ _)); exact BK356.out)) : gb364 ≠ gb356)); clear BK356; clear HB; have BK356 := n0_; have HB := n1_; have BK364 := n2_; have GW364 := n3_; have GE364 := n4_; have NB356_364 := n5_; have NB364_356 := n6_; clear n0_ n1_ n2_ n3_ n4_ n5_ n6_; clear hb hbox hg; have hnb192 := NB364_356.out; have hnc192 := NB356_364.out; have hcz193_0 : w191.cell? ⟨gb364, 0, none⟩ = some (.int .i64 0) := (blk_cell BK364.out 0).trans rfl; have hcz193_1 : w191.cell? ⟨gb364, 1, none⟩ = some (.int .i64 0) := (blk_cell BK364.out 1).trans rfl; have hcz193_2 : w191.cell? ⟨gb364, 2, none⟩ = some (.int .u32 0) := (blk_cell BK364.out 2).trans rfl; have hcz193_3 : w191.cell? ⟨gb364, 3, none⟩ = some (.string (⟨#[]⟩ : ByteArray)) := (blk_cell BK364.out 3).trans rfl; have hfz193_0 := blk_frozen BK364.out 0; have hfz193_1 := blk_frozen BK364.out 1; have hfz193_2 := blk_frozen BK364.out 2; have hfz193_3 := blk_frozen BK364.out 3) | ((with_reducible refine gate_dst (N := 63) rfl ?_); (try (refine gate_guard (by rfl) ?_; dsimp only)); refine Kb.Q_conv (Kd.int .u8) 5 rfl (N := 63) rfl 9 38 _ rfl t357 rfl Try.underlying9 Try.underlying38 Try.underlying5 (ok := fun _ => True) trivial (of_decide_eq_true (by first | (with_reducible assumption) | assumption)) ?_; intro v379 w194 ho195 hb hg_ hnew_; clear hg_ hnew_; (first | rw [← Ny378.out] at ho195 | (simp only [Int.reduceToNat] at ho195; rw [← Ny378.out] at ho195)); have n0_ := Aside0.mk (Kb.Q_lower ho195 (below_size (by repeat (first | (with_reducible first | exact HB.out | apply below_alloc | apply pw_below_drewN | apply below_drew1 | refine below_set ?_ GE356.out | refine below_set ?_ GE364.out) | exact HB.out)))); have n1_ := Aside0.mk (blk_below (g := gb356) (o := .cells #[.int .i64 (wrap64 (a0)), .int .i64 (wrap64 (a1)), .int .u32 a2, .string (a3.extract 0 ((ji8) : Int).toNat)] 45 (0, 0)) (by (with_reducible repeat (first | refine blk_drewN ?_ _ | refine blk_drew ?_ | refine blk_alloc ?_ _)); refine blk_far ?_ NB356_364.out _; (with_reducible repeat (first | refine blk_drewN ?_ _ | refine blk_drew ?_ | refine blk_alloc ?_ _)); refine blk_far ?_ NB356_364.out _; (with_reducible repeat (first | refine blk_drewN ?_ _ | refine blk_drew ?_ | refine blk_alloc ?_ _)); refine blk_far ?_ NB356_364.out _; (with_reducible repeat (first | refine blk_drewN ?_ _ | refine blk_drew ?_ | refine blk_alloc ?_ _)); refine blk_far ?_ NB356_364.out _; (with_reducible repeat (first | refine blk_drewN ?_ _ | refine blk_drew ?_ | refine blk_alloc ?_ _)); exact BK356.out) hb); have n2_ := Aside0.mk (blk_below (g := gb364) (o := .cells #[.int .i64 t359, .int .i64 t360, .int .u32 t361, .string t362] 45 (0, 0)) (by (with_reducible repeat (first | refine blk_drewN ?_ _ | refine blk_drew ?_ | refine blk_alloc ?_ _)); refine blk_put (cs := #[.int .i64 t359, .int .i64 t360, .int .u32 t361, .string (⟨#[]⟩ : ByteArray)]) ?_ 3 _ rfl; (with_reducible repeat (first | refine blk_drewN ?_ _ | refine blk_drew ?_ | refine blk_alloc ?_ _)); refine blk_put (cs := #[.int .i64 t359, .int .i64 t360, .int .u32 0, .string (⟨#[]⟩ : ByteArray)]) ?_ 2 _ rfl; (with_reducible repeat (first | refine blk_drewN ?_ _ | refine blk_drew ?_ | refine blk_alloc ?_ _)); refine blk_put (cs := #[.int .i64 t359, .int .i64 0, .int .u32 0, .string (⟨#[]⟩ : ByteArray)]) ?_ 1 _ rfl; (with_reducible repeat (first | refine blk_drewN ?_ _ | refine blk_drew ?_ | refine blk_alloc ?_ _)); refine blk_put (cs := #[.int .i64 0, .int .i64 0, .int .u32 0, .string (⟨#[]⟩ : ByteArray)]) ?_ 0 _ rfl; (with_reducible repeat (first | refine blk_drewN ?_ _ | refine blk_drew ?_ | refine blk_alloc ?_ _)); exact BK364.out) hb); have n3_ := Aside0.mk (below_step (by repeat (first | (with_reducible first | exact HB.out | apply below_alloc | apply pw_below_drewN | apply below_drew1 | refine below_set ?_ GE356.out | refine below_set ?_ GE364.out) | exact HB.out)) hb); clear BK356; clear BK364; clear HB; have HO380 := n0_; have BK356 := n1_; have BK364 := n2_; have HB := n3_; clear n0_ n1_ n2_ n3_; clear hb ho195))
                                          have n0_ := Aside0.mk (Kb.Q_drew HO380.out)
                                          have n1_ := Aside0.mk (blk_drew BK356.out)
                                          have n2_ := Aside0.mk (blk_drew BK364.out)
                                          have n3_ := Aside0.mk (below_drew1 HB.out)
                                          clear HO380
                                          clear BK356
                                          clear BK364
                                          clear HB
                                          have HO380 := n0_
                                          have BK356 := n1_
                                          have BK364 := n2_
                                          have HB := n3_
                                          clear n0_ n1_ n2_ n3_
                                          obtain ⟨Ao197, co197, eo197, _⟩ := Kb.Q_slice HO380.out
                                          (first | subst eo197 | (injection eo197 with f1_ f2_ f3_; have f4_ := f1_.symm; have f5_ := f3_.symm; clear f1_ f2_ f3_; subst f4_; subst f5_))
                                          have p381 : 0 ≤ ((ji129) : Int) := of_decide_eq_true (by first | (with_reducible assumption) | assumption)
                                          have q381 : (ji129) < (y378.length : Int) := of_decide_eq_true (by first | (with_reducible assumption) | assumption)
                                          obtain ⟨ad381, e381, hx381_0⟩ := Kd.at_int (Kb.Q_reads' HO380.out).2.2 (ji129) p381 q381
                                          cases e381
                                          replace p381 := eq_true p381
                                          replace q381 := eq_true q381
                                          have p135 : 0 ≤ ((ji129) : Int) := of_decide_eq_true (by first | (with_reducible assumption) | assumption)
                                          have q135 : ((ji129) : Int) < ((y378.length : Int) : Int) := of_decide_eq_true (by first | (with_reducible assumption) | assumption)
                                          obtain ⟨go135, co135, eo135, gb135, gl135, cl135, HG135⟩ := Kb.Q_form HO380.out (by omega)
                                          (first | cases eo135 | (injection eo135 with ea_ en_ ec_; (first | subst ea_ | (injection ea_ with ea_; subst ea_)); subst ec_; clear en_))
                                          have GB135 := Aside0.mk gb135
                                          have GG135 := Aside0.mk HG135
                                          clear gb135 gl135 HG135
                                          (first | simp only [add_at, Nat.zero_add] at hx381_0 | skip)
                                          obtain ⟨hx135_0, hf135_0⟩ := Kb.Q_cell 0 HO380.out ((ji129) : Int) p135 q135
                                          replace p135 := eq_true p135
                                          replace q135 := eq_true q135
                                          have HP198 := (Kb.Q_putg HO380.out ((ji129) : Int) (of_decide_eq_true (by first | (with_reducible assumption) | assumption)) (by have h_ : ((ji129) : Int) < ((y378.length : Int) : Int) := of_decide_eq_true (by first | (with_reducible assumption) | assumption); first | exact h_ | (have e_ := (Kb.Q_reads' HO380.out).1; omega) | simpa using h_) (Go.bits .xor .u8 (rd y378 (ji129)) (ji134))).1
                                          rw [← Ny382.out] at HP198
                                          have HQ198 := Aside0.mk HP198
                                          clear HP198
                                          refine start_ (n := 20) (S := fun w' => w'.cell? ⟨go135, ((ji129)).toNat, none⟩ = some (.int .u8 (rd y378 (ji129)))) (ds := [19]) #[false, false, false, false, false, false, false, false, false, false, false, false, false, false, false, false, false, false, false, false] (by kernel_rfl) rfl rfl (hx381_0) (fun hHeld => ?_); refine with_tabW weighbridgelaw07_IcmpBack.tab12 weighbridgelaw07_IcmpBack.bits12 (fun HT_ HW_ => ?_)
                                          generalize w194.drew = w196 at HO380 BK356 BK364 HB GG135 HQ198 hf135_0 hx135_0 hx381_0 hHeld ⊢
                                          refine pure_ (i := 0) (N := some 64) (v := ?_) (a' := ?_) #[true, false, false, false, false, false, false, false, false, false, false, false, false, false, false, false, false, false, false, false] rfl rfl (any_of HT_.out (by kernel_rfl)) (fun _ _ _ h => h) (Or.inl ⟨by rfl, ?_⟩) ?_ ?_
                                          rotate_left
                                          · intro w'
                                            go_simp
                                            with_reducible rfl
                                          rotate_left
                                          · simp only [Act.put, List.setIfInBounds_toArray, List.set_cons_zero, List.set_cons_succ, i64_w, i32_w]
                                            rfl
                                          refine pure_ (i := 1) (N := some 65) (v := ?_) (a' := ?_) #[true, true, false, false, false, false, false, false, false, false, false, false, false, false, false, false, false, false, false, false] rfl rfl (any_of HT_.out (by kernel_rfl)) (fun _ _ _ h => h) (Or.inl ⟨by rfl, ?_⟩) ?_ ?_
                                          rotate_left
                                          · intro w'
                                            go_simp
                                            with_reducible rfl
                                          rotate_left
                                          · simp only [Act.put, List.setIfInBounds_toArray, List.set_cons_zero, List.set_cons_succ, i64_w, i32_w]
                                            rfl
                                          refine pure_ (i := 2) (N := some 66) (v := ?_) (a' := ?_) #[true, true, true, false, false, false, false, false, false, false, false, false, false, false, false, false, false, false, false, false] rfl rfl (any_of HT_.out (by kernel_rfl)) (fun _ _ _ h => h) (Or.inl ⟨by rfl, ?_⟩) ?_ ?_
                                          rotate_left
                                          · intro w'
                                            go_simp
                                            with_reducible rfl
                                          rotate_left
                                          · simp only [Act.put, List.setIfInBounds_toArray, List.set_cons_zero, List.set_cons_succ, i64_w, i32_w]
                                            rfl
                                          refine pure_ (i := 3) (N := some 67) (v := ?_) (a' := ?_) #[true, true, true, true, false, false, false, false, false, false, false, false, false, false, false, false, false, false, false, false] rfl rfl (any_of HT_.out (by kernel_rfl)) (fun _ _ _ h => h) (Or.inl ⟨by rfl, ?_⟩) ?_ ?_
                                          rotate_left
                                          · intro w'
                                            go_simp
                                            with_reducible rfl
                                          rotate_left
                                          · simp only [Act.put, List.setIfInBounds_toArray, List.set_cons_zero, List.set_cons_succ, i64_w, i32_w]
                                            rfl
                                          refine pure_ (i := 4) (N := some 68) (v := ?_) (a' := ?_) #[true, true, true, true, true, false, false, false, false, false, false, false, false, false, false, false, false, false, false, false] rfl rfl (any_of HT_.out (by kernel_rfl)) (fun _ _ _ h => h) (Or.inl ⟨by rfl, ?_⟩) ?_ ?_
                                          rotate_left
                                          · intro w'
                                            go_simp
                                            with_reducible rfl
                                          rotate_left
                                          · simp only [Act.put, List.setIfInBounds_toArray, List.set_cons_zero, List.set_cons_succ, i64_w, i32_w]
                                            rfl
                                          refine pure_ (i := 5) (N := some 69) (v := ?_) (a' := ?_) #[true, true, true, true, true, true, false, false, false, false, false, false, false, false, false, false, false, false, false, false] rfl rfl (any_of HT_.out (by kernel_rfl)) (fun _ _ _ h => h) (Or.inl ⟨by rfl, ?_⟩) ?_ ?_
                                          rotate_left
                                          · intro w'
                                            go_simp
                                            with_reducible rfl
                                          rotate_left
                                          · simp only [Act.put, List.setIfInBounds_toArray, List.set_cons_zero, List.set_cons_succ, i64_w, i32_w]
                                            rfl
                                          refine pure_ (i := 6) (N := some 70) (v := ?_) (a' := ?_) #[true, true, true, true, true, true, true, false, false, false, false, false, false, false, false, false, false, false, false, false] rfl rfl (any_of HT_.out (by kernel_rfl)) (fun _ _ _ h => h) (Or.inl ⟨by rfl, ?_⟩) ?_ ?_
                                          rotate_left
                                          · intro w'
                                            go_simp
                                            with_reducible rfl
                                          rotate_left
                                          · simp only [Act.put, List.setIfInBounds_toArray, List.set_cons_zero, List.set_cons_succ, i64_w, i32_w]
                                            rfl
                                          refine pure_ (i := 7) (N := some 71) (v := ?_) (a' := ?_) #[true, true, true, true, true, true, true, true, false, false, false, false, false, false, false, false, false, false, false, false] rfl rfl (any_of HT_.out (by kernel_rfl)) (fun _ _ _ h => h) (Or.inl ⟨by rfl, ?_⟩) ?_ ?_
                                          rotate_left
                                          · intro w'
                                            go_simp
                                            with_reducible rfl
                                          rotate_left
                                          · simp only [Act.put, List.setIfInBounds_toArray, List.set_cons_zero, List.set_cons_succ, i64_w, i32_w]
                                            rfl
                                          refine pure_ (i := 8) (N := some 72) (v := ?_) (a' := ?_) #[true, true, true, true, true, true, true, true, true, false, false, false, false, false, false, false, false, false, false, false] rfl rfl (any_of HT_.out (by kernel_rfl)) (fun _ _ _ h => h) (Or.inl ⟨by rfl, ?_⟩) ?_ ?_
                                          rotate_left
                                          · intro w'
                                            go_simp
                                            with_reducible rfl
                                          rotate_left
                                          · simp only [Act.put, List.setIfInBounds_toArray, List.set_cons_zero, List.set_cons_succ, i64_w, i32_w]
                                            rfl
                                          refine pure_ (i := 9) (N := some 73) (v := ?_) (a' := ?_) #[true, true, true, true, true, true, true, true, true, true, false, false, false, false, false, false, false, false, false, false] rfl rfl (any_of HT_.out (by kernel_rfl)) (fun _ _ _ h => h) (Or.inl ⟨by rfl, ?_⟩) ?_ ?_
                                          rotate_left
                                          · intro w'
                                            go_simp
                                            with_reducible rfl
                                          rotate_left
                                          · simp only [Act.put, List.setIfInBounds_toArray, List.set_cons_zero, List.set_cons_succ, i64_w, i32_w]
                                            rfl
                                          refine pure_ (i := 10) (N := some 74) (v := ?_) (a' := ?_) #[true, true, true, true, true, true, true, true, true, true, true, false, false, false, false, false, false, false, false, false] rfl rfl (any_of HT_.out (by kernel_rfl)) (fun _ _ _ h => h) (Or.inl ⟨by rfl, ?_⟩) ?_ ?_
                                          rotate_left
                                          · intro w'
                                            go_simp
                                            with_reducible rfl
                                          rotate_left
                                          · simp only [Act.put, List.setIfInBounds_toArray, List.set_cons_zero, List.set_cons_succ, i64_w, i32_w]
                                            rfl
                                          refine pure_ (i := 11) (N := some 75) (v := ?_) (a' := ?_) #[true, true, true, true, true, true, true, true, true, true, true, true, false, false, false, false, false, false, false, false] rfl rfl (any_of HT_.out (by kernel_rfl)) (fun _ _ _ h => h) (Or.inl ⟨by rfl, ?_⟩) ?_ ?_
                                          rotate_left
                                          · intro w'
                                            go_simp
                                            with_reducible rfl
                                          rotate_left
                                          · simp only [Act.put, List.setIfInBounds_toArray, List.set_cons_zero, List.set_cons_succ, i64_w, i32_w]
                                            rfl
                                          refine pure_ (i := 12) (N := some 76) (v := ?_) (a' := ?_) #[true, true, true, true, true, true, true, true, true, true, true, true, true, false, false, false, false, false, false, false] rfl rfl (any_of HT_.out (by kernel_rfl)) (fun _ _ _ h => h) (Or.inl ⟨by rfl, ?_⟩) ?_ ?_
                                          rotate_left
                                          · intro w'
                                            go_simp
                                            with_reducible rfl
                                          rotate_left
                                          · simp only [Act.put, List.setIfInBounds_toArray, List.set_cons_zero, List.set_cons_succ, i64_w, i32_w]
                                            rfl
                                          refine pure_ (i := 14) (N := some 78) (v := ?_) (a' := ?_) #[true, true, true, true, true, true, true, true, true, true, true, true, true, false, true, false, false, false, false, false] rfl rfl (any_of HT_.out (by kernel_rfl)) (fun _ _ _ h => h) (Or.inl ⟨by rfl, ?_⟩) ?_ ?_
                                          rotate_left
                                          · intro w'
                                            go_simp
                                            with_reducible rfl
                                          rotate_left
                                          · simp only [Act.put, List.setIfInBounds_toArray, List.set_cons_zero, List.set_cons_succ, i64_w, i32_w]
                                            rfl
                                          refine pure_ (i := 15) (N := some 79) (v := ?_) (a' := ?_) #[true, true, true, true, true, true, true, true, true, true, true, true, true, false, true, true, false, false, false, false] rfl rfl (any_of HT_.out (by kernel_rfl)) (fun _ _ _ h => h) (Or.inl ⟨by rfl, ?_⟩) ?_ ?_
                                          rotate_left
                                          · intro w'
                                            go_simp
                                            with_reducible rfl
                                          rotate_left
                                          · simp only [Act.put, List.setIfInBounds_toArray, List.set_cons_zero, List.set_cons_succ, i64_w, i32_w]
                                            rfl
                                          refine pure_ (i := 16) (N := some 80) (v := ?_) (a' := ?_) #[true, true, true, true, true, true, true, true, true, true, true, true, true, false, true, true, true, false, false, false] rfl rfl (any_of HT_.out (by kernel_rfl)) (fun _ _ _ h => h) (Or.inl ⟨by rfl, ?_⟩) ?_ ?_
                                          rotate_left
                                          · intro w'
                                            go_simp
                                            with_reducible rfl
                                          rotate_left
                                          · simp only [Act.put, List.setIfInBounds_toArray, List.set_cons_zero, List.set_cons_succ, i64_w, i32_w]
                                            rfl
                                          refine take_ (i := 13) (N := some 77) (v := ?_) (a' := ?_) #[true, true, true, true, true, true, true, true, true, true, true, true, true, true, true, true, true, false, false, false] rfl rfl (take_ofW HT_.out HW_.out (by kernel_rfl)) (fun _ _ _ h => h) (Or.inl ⟨by rfl, ?_⟩) hHeld ?_ ?_
                                          rotate_left
                                          · intro w' s0
                                            go_simp
                                            with_reducible rfl
                                          rotate_left
                                          · simp only [Act.put, List.setIfInBounds_toArray, List.set_cons_zero, List.set_cons_succ, i64_w, i32_w]
                                            rfl
                                          refine pure_ (i := 17) (N := some 81) (v := ?_) (a' := ?_) #[true, true, true, true, true, true, true, true, true, true, true, true, true, true, true, true, true, true, false, false] rfl rfl (any_of HT_.out (by kernel_rfl)) (fun _ _ _ h => h) (Or.inl ⟨by rfl, ?_⟩) ?_ ?_
                                          rotate_left
                                          · intro w'
                                            go_simp
                                            with_reducible rfl
                                          rotate_left
                                          · simp only [Act.put, List.setIfInBounds_toArray, List.set_cons_zero, List.set_cons_succ, i64_w, i32_w]
                                            rfl
                                          refine pure_ (i := 18) (N := some 82) (v := ?_) (a' := ?_) #[true, true, true, true, true, true, true, true, true, true, true, true, true, true, true, true, true, true, true, false] rfl rfl (any_of HT_.out (by kernel_rfl)) (fun _ _ _ h => h) (Or.inl ⟨by rfl, ?_⟩) ?_ ?_
                                          rotate_left
                                          · intro w'
                                            go_simp
                                            with_reducible rfl
                                          rotate_left
                                          · simp only [Act.put, List.setIfInBounds_toArray, List.set_cons_zero, List.set_cons_succ, i64_w, i32_w]
                                            rfl
                                          refine last_ (i := 19) (N := none) #[true, true, true, true, true, true, true, true, true, true, true, true, true, true, true, true, true, true, true, true] rfl rfl (one_of HT_.out (by kernel_rfl)) (by decide) (fun K hK => ?_)
                                          refine skip_ (w1 := ?_) (by rfl) rfl ?_ ?_
                                          rotate_left
                                          · go_simp
                                            rfl
                                          refine hK.out _ _ ?_
                                          clear hK K
                                          refine done_ (done_of HT_.out (by kernel_rfl)) ?_
                                          have n0_ : Aside0 (Kb.Q (Kd.int .u8) 5 (w196.setCell ⟨go135, ((ji129) : Int).toNat, none⟩ (.int .u8 (Go.bits .xor .u8 (rd y378 (ji129)) (ji134)))) w.heap.size (fun _ => True) (.slice (some ⟨go135, 0, none⟩) y378.length co197) y382) := ⟨by (with_reducible repeat (first | apply Kb.Q_alloc | apply Kb.Q_drewN | apply Kb.Q_drew)); exact HQ198.out⟩
                                          have n1_ : Aside0 ((w196.setCell ⟨go135, ((ji129) : Int).toNat, none⟩ (.int .u8 (Go.bits .xor .u8 (rd y378 (ji129)) (ji134)))).heap[gb356]? = some (.cells #[.int .i64 (wrap64 (a0)), .int .i64 (wrap64 (a1)), .int .u32 a2, .string (a3.extract 0 ((ji8) : Int).toNat)] 45 (0, 0))) := ⟨by (with_reducible repeat (first | refine blk_drewN ?_ _ | refine blk_drew ?_ | refine blk_alloc ?_ _)); refine blk_far ?_ (by have h_ := Kb.Q_ne HO380.out BK356.out (by decide); intro e_; exact h_ (by rw [e_]; rfl)) _; (with_reducible repeat (first | refine blk_drewN ?_ _ | refine blk_drew ?_ | refine blk_alloc ?_ _)); exact BK356.out⟩
                                          have n2_ : Aside0 ((w196.setCell ⟨go135, ((ji129) : Int).toNat, none⟩ (.int .u8 (Go.bits .xor .u8 (rd y378 (ji129)) (ji134)))).heap[gb364]? = some (.cells #[.int .i64 t359, .int .i64 t360, .int .u32 t361, .string t362] 45 (0, 0))) := ⟨by (with_reducible repeat (first | refine blk_drewN ?_ _ | refine blk_drew ?_ | refine blk_alloc ?_ _)); refine blk_far ?_ (by have h_ := Kb.Q_ne HO380.out BK364.out (by decide); intro e_; exact h_ (by rw [e_]; rfl)) _; (with_reducible repeat (first | refine blk_drewN ?_ _ | refine blk_drew ?_ | refine blk_alloc ?_ _)); exact BK364.out⟩
                                          have n3_ : Aside0 (Below w.heap.size w (w196.setCell ⟨go135, ((ji129) : Int).toNat, none⟩ (.int .u8 (Go.bits .xor .u8 (rd y378 (ji129)) (ji134))))) := ⟨by repeat (first | (with_reducible first | exact HB.out | apply below_alloc | apply pw_below_drewN | apply below_drew1 | refine below_set ?_ GB135.out | refine below_set ?_ GE356.out | refine below_set ?_ GE364.out) | exact HB.out)⟩
                                          (try clear HO380)
                                          (try clear BK356)
                                          (try clear BK364)
                                          (try clear HB)
                                          generalize (w196.setCell ⟨go135, ((ji129) : Int).toNat, none⟩ (.int .u8 (Go.bits .xor .u8 (rd y378 (ji129)) (ji134)))) = w199 at n0_ n1_ n2_ n3_ ⊢
                                          have HO380 := n0_
                                          have BK356 := n1_
                                          have BK364 := n2_
                                          have HB := n3_
                                          clear n0_ n1_ n2_ n3_
                                          have hcv200 := Kb.Q_string (P := Try.prog) Try.underlying38 Try.underlying5 Try.underlying9 (HO380.out)
                                          try go_wp2_with (first | ((with_reducible refine gate_callee (f := 29) rfl ?_); refine goesL_ (some 86) rfl rfl Try.func29 (by kernel_rfl) rfl #[.string (strOfNums y382)] rfl (by (try simp only [List.map_toArray, List.map_cons, List.map_nil]); first | done | rfl | (simp only [List.length_drop, List.length_take]; rfl)) ?_; (with_reducible refine (icmp_Parse.calls (strOfNums y382) t383 t384 t385 t386 t387 _ A136.out).mono ?_); rintro e w201 ⟨rfl, hb⟩; (try clear A136); refine ⟨_, rfl, ?_⟩; have n0_ := Aside0.mk (Kb.Q_below (by (with_reducible repeat (first | apply Kb.Q_alloc | apply Kb.Q_drewN | apply Kb.Q_drew)); exact HO380.out) hb); have n1_ := Aside0.mk (blk_below (g := gb356) (o := .cells #[.int .i64 (wrap64 (a0)), .int .i64 (wrap64 (a1)), .int .u32 a2, .string (a3.extract 0 ((ji8) : Int).toNat)] 45 (0, 0)) (by (with_reducible repeat (first | refine blk_drewN ?_ _ | refine blk_drew ?_ | refine blk_alloc ?_ _)); exact BK356.out) hb); have n2_ := Aside0.mk (blk_below (g := gb364) (o := .cells #[.int .i64 t359, .int .i64 t360, .int .u32 t361, .string t362] 45 (0, 0)) (by (with_reducible repeat (first | refine blk_drewN ?_ _ | refine blk_drew ?_ | refine blk_alloc ?_ _)); exact BK364.out) hb); have n3_ := Aside0.mk (below_step (by repeat (first | (with_reducible first | exact HB.out | apply below_alloc | apply pw_below_drewN | apply below_drew1 | refine below_set ?_ GE356.out | refine below_set ?_ GE364.out) | exact HB.out)) hb); clear HO380; clear BK356; clear BK364; clear HB; have HO380 := n0_; have BK356 := n1_; have BK364 := n2_; have HB := n3_; clear n0_ n1_ n2_ n3_; (try clear hb); (try clear hb2); (try clear hk); (try clear hi)) | ((with_reducible refine gate_dst (N := 18) rfl ?_); (try (refine gate_guard (by rfl) ?_; dsimp only)); refine box_event ?hg (N := 18) ?hd (cs := #[.int .i64 0, .int .i64 0, .int .u32 0, .string (⟨#[]⟩ : ByteArray)]) (t := 45) ?hr ?_; (case hd => rfl); (case hg => rfl); (case hr => first | (go_simp; done) | (go_simp; rfl)); intro gb388 hg w202 hbox hb; have n0_ := Aside0.mk (Kb.Q_below (by (with_reducible repeat (first | apply Kb.Q_alloc | apply Kb.Q_drewN | apply Kb.Q_drew)); exact HO380.out) hb); have n1_ := Aside0.mk (blk_below (g := gb356) (o := .cells #[.int .i64 (wrap64 (a0)), .int .i64 (wrap64 (a1)), .int .u32 a2, .string (a3.extract 0 ((ji8) : Int).toNat)] 45 (0, 0)) (by (with_reducible repeat (first | refine blk_drewN ?_ _ | refine blk_drew ?_ | refine blk_alloc ?_ _)); exact BK356.out) hb); have n2_ := Aside0.mk (blk_below (g := gb364) (o := .cells #[.int .i64 t359, .int .i64 t360, .int .u32 t361, .string t362] 45 (0, 0)) (by (with_reducible repeat (first | refine blk_drewN ?_ _ | refine blk_drew ?_ | refine blk_alloc ?_ _)); exact BK364.out) hb); have n3_ := Aside0.mk (below_step (by repeat (first | (with_reducible first | exact HB.out | apply below_alloc | apply pw_below_drewN | apply below_drew1 | refine below_set ?_ GE356.out | refine below_set ?_ GE364.out) | exact HB.out)) hb); have n4_ := Aside0.mk (hbox); have n5_ := Aside0.mk ((by rw [hg]; exact (below_size (by repeat (first | (with_reducible first | exact HB.out | apply below_alloc | apply pw_below_drewN | apply below_drew1 | refine below_set ?_ GE356.out | refine below_set ?_ GE364.out) | exact HB.out))) : w.heap.size ≤ gb388)); have n6_ := Aside0.mk ((by rw [hg]; exact (below_size (by repeat (first | (with_reducible first | exact HB.out | apply below_alloc | apply pw_below_drewN | apply below_drew1 | refine below_set ?_ GE356.out | refine below_set ?_ GE364.out) | exact HB.out))) : w.heap.size ≤ gb388)); have n7_ := Aside0.mk ((by rw [hg]; exact Nat.ne_of_lt (blk_lt (g := gb356) (o := .cells #[.int .i64 (wrap64 (a0)), .int .i64 (wrap64 (a1)), .int .u32 a2, .string (a3.extract 0 ((ji8) : Int).toNat)] 45 (0, 0)) (by (with_reducible repeat (first | refine blk_drewN ?_ _ | refine blk_drew ?_ | refine blk_alloc ?_ _)); exact BK356.out)) : gb356 ≠ gb388)); have n8_ := Aside0.mk ((by rw [hg]; exact Nat.ne_of_gt (blk_lt (g := gb356) (o := .cells #[.int .i64 (wrap64 (a0)), .int .i64 (wrap64 (a1)), .int .u32 a2, .string (a3.extract 0 ((ji8) : Int).toNat)] 45 (0, 0)) (by (with_reducible repeat (first | refine blk_drewN ?_ _ | refine blk_drew ?_ | refine blk_alloc ?_ _)); exact BK356.out)) : gb388 ≠ gb356)); have n9_ := Aside0.mk ((by rw [hg]; exact Nat.ne_of_lt (blk_lt (g := gb364) (o := .cells #[.int .i64 t359, .int .i64 t360, .int .u32 t361, .string t362] 45 (0, 0)) (by (with_reducible repeat (first | refine blk_drewN ?_ _ | refine blk_drew ?_ | refine blk_alloc ?_ _)); exact BK364.out)) : gb364 ≠ gb388)); have n10_ := Aside0.mk ((by rw [hg]; exact Nat.ne_of_gt (blk_lt (g := gb364) (o := .cells #[.int .i64 t359, .int .i64 t360, .int .u32 t361, .string t362] 45 (0, 0)) (by (with_reducible repeat (first | refine blk_drewN ?_ _ | refine blk_drew ?_ | refine blk_alloc ?_ _)); exact BK364.out)) : gb388 ≠ gb364)); clear HO380; clear BK356; clear BK364; clear HB; have HO380 := n0_; have BK356 := n1_; have BK364 := n2_; have HB := n3_; have BK388 := n4_; have GW388 := n5_; have GE388 := n6_; have NB356_388 := n7_; have NB388_356 := n8_; have NB364_388 := n9_; have NB388_364 := n10_; clear n0_ n1_ n2_ n3_ n4_ n5_ n6_ n7_ n8_ n9_ n10_; clear hb hbox hg; have hnb203 := NB388_356.out; have hnc203 := NB356_388.out; have hnb204 := NB388_364.out; have hnc204 := NB364_388.out; have hcz205_0 : w202.cell? ⟨gb388, 0, none⟩ = some (.int .i64 0) := (blk_cell BK388.out 0).trans rfl; have hcz205_1 : w202.cell? ⟨gb388, 1, none⟩ = some (.int .i64 0) := (blk_cell BK388.out 1).trans rfl; have hcz205_2 : w202.cell? ⟨gb388, 2, none⟩ = some (.int .u32 0) := (blk_cell BK388.out 2).trans rfl; have hcz205_3 : w202.cell? ⟨gb388, 3, none⟩ = some (.string (⟨#[]⟩ : ByteArray)) := (blk_cell BK388.out 3).trans rfl; have hfz205_0 := blk_frozen BK388.out 0; have hfz205_1 := blk_frozen BK388.out 1; have hfz205_2 := blk_frozen BK388.out 2; have hfz205_3 := blk_frozen BK388.out 3; have hcz206_0 : w202.cell? ⟨gb356, 0, none⟩ = some (.int .i64 (wrap64 (a0))) := (blk_cell BK356.out 0).trans rfl; have hcz206_1 : w202.cell? ⟨gb356, 1, none⟩ = some (.int .i64 (wrap64 (a1))) := (blk_cell BK356.out 1).trans rfl; have hcz206_2 : w202.cell? ⟨gb356, 2, none⟩ = some (.int .u32 a2) := (blk_cell BK356.out 2).trans rfl; have hcz206_3 : w202.cell? ⟨gb356, 3, none⟩ = some (.string (a3.extract 0 ((ji8) : Int).toNat)) := (blk_cell BK356.out 3).trans rfl; have hfz206_0 := blk_frozen BK356.out 0; have hfz206_1 := blk_frozen BK356.out 1; have hfz206_2 := blk_frozen BK356.out 2; have hfz206_3 := blk_frozen BK356.out 3) | ((with_reducible refine gate_callee (f := 25) rfl ?_); refine goesL_ (some 91) rfl rfl Try.func25 (by kernel_rfl) rfl #[.agg #[.int .i64 (wrap64 (a0)), .int .i64 (wrap64 (a1)), .int .u32 a2, .string (a3.extract 0 ((ji8) : Int).toNat)]] rfl (by (try simp only [List.map_toArray, List.map_cons, List.map_nil]); first | done | (simp only [hji8]; rfl) | rfl | (simp only [List.length_drop, List.length_take]; rfl)) ?_; (with_reducible refine (icmp_MTU.calls (wrap64 (a0)) (wrap64 (a1)) a2 (a3.extract 0 ((ji8) : Int).toNat) t389 true _ A137.out).mono ?_); rintro e w207 ⟨rfl, hb⟩; (try clear A137); refine ⟨_, rfl, ?_⟩; have n0_ := Aside0.mk (Kb.Q_below (by (with_reducible repeat (first | apply Kb.Q_alloc | apply Kb.Q_drewN | apply Kb.Q_drew)); exact (Kb.Q_mono (Kb.Q_far (p := ⟨gb388, 3, none⟩) (Kb.Q_far (p := ⟨gb388, 2, none⟩) (Kb.Q_far (p := ⟨gb388, 1, none⟩) (Kb.Q_far (p := ⟨gb388, 0, none⟩) (Kb.Q_types HO380.out BK388.out (by decide)) (fun _ hk => hk.2) (.int .i64 t383)) (fun _ hk => hk.2) (.int .i64 t384)) (fun _ hk => hk.2) (.int .u32 t385)) (fun _ hk => hk.2) (.string t386)) (fun _ h_ => h_.1))) hb); have n1_ := Aside0.mk (blk_below (g := gb356) (o := .cells #[.int .i64 (wrap64 (a0)), .int .i64 (wrap64 (a1)), .int .u32 a2, .string (a3.extract 0 ((ji8) : Int).toNat)] 45 (0, 0)) (by (with_reducible repeat (first | refine blk_drewN ?_ _ | refine blk_drew ?_ | refine blk_alloc ?_ _)); refine blk_far ?_ NB356_388.out _; (with_reducible repeat (first | refine blk_drewN ?_ _ | refine blk_drew ?_ | refine blk_alloc ?_ _)); refine blk_far ?_ NB356_388.out _; (with_reducible repeat (first | refine blk_drewN ?_ _ | refine blk_drew ?_ | refine blk_alloc ?_ _)); refine blk_far ?_ NB356_388.out _; (with_reducible repeat (first | refine blk_drewN ?_ _ | refine blk_drew ?_ | refine blk_alloc ?_ _)); refine blk_far ?_ NB356_388.out _; (with_reducible repeat (first | refine blk_drewN ?_ _ | refine blk_drew ?_ | refine blk_alloc ?_ _)); exact BK356.out) hb); have n2_ := Aside0.mk (blk_below (g := gb364) (o := .cells #[.int .i64 t359, .int .i64 t360, .int .u32 t361, .string t362] 45 (0, 0)) (by (with_reducible repeat (first | refine blk_drewN ?_ _ | refine blk_drew ?_ | refine blk_alloc ?_ _)); refine blk_far ?_ NB364_388.out _; (with_reducible repeat (first | refine blk_drewN ?_ _ | refine blk_drew ?_ | refine blk_alloc ?_ _)); refine blk_far ?_ NB364_388.out _; (with_reducible repeat (first | refine blk_drewN ?_ _ | refine blk_drew ?_ | refine blk_alloc ?_ _)); refine blk_far ?_ NB364_388.out _; (with_reducible repeat (first | refine blk_drewN ?_ _ | refine blk_drew ?_ | refine blk_alloc ?_ _)); refine blk_far ?_ NB364_388.out _; (with_reducible repeat (first | refine blk_drewN ?_ _ | refine blk_drew ?_ | refine blk_alloc ?_ _)); exact BK364.out) hb); have n3_ := Aside0.mk (blk_below (g := gb388) (o := .cells #[.int .i64 t383, .int .i64 t384, .int .u32 t385, .string t386] 45 (0, 0)) (by (with_reducible repeat (first | refine blk_drewN ?_ _ | refine blk_drew ?_ | refine blk_alloc ?_ _)); refine blk_put (cs := #[.int .i64 t383, .int .i64 t384, .int .u32 t385, .string (⟨#[]⟩ : ByteArray)]) ?_ 3 _ rfl; (with_reducible repeat (first | refine blk_drewN ?_ _ | refine blk_drew ?_ | refine blk_alloc ?_ _)); refine blk_put (cs := #[.int .i64 t383, .int .i64 t384, .int .u32 0, .string (⟨#[]⟩ : ByteArray)]) ?_ 2 _ rfl; (with_reducible repeat (first | refine blk_drewN ?_ _ | refine blk_drew ?_ | refine blk_alloc ?_ _)); refine blk_put (cs := #[.int .i64 t383, .int .i64 0, .int .u32 0, .string (⟨#[]⟩ : ByteArray)]) ?_ 1 _ rfl; (with_reducible repeat (first | refine blk_drewN ?_ _ | refine blk_drew ?_ | refine blk_alloc ?_ _)); refine blk_put (cs := #[.int .i64 0, .int .i64 0, .int .u32 0, .string (⟨#[]⟩ : ByteArray)]) ?_ 0 _ rfl; (with_reducible repeat (first | refine blk_drewN ?_ _ | refine blk_drew ?_ | refine blk_alloc ?_ _)); exact BK388.out) hb); have n4_ := Aside0.mk (below_step (by repeat (first | (with_reducible first | exact HB.out | apply below_alloc | apply pw_below_drewN | apply below_drew1 | refine below_set ?_ GE356.out | refine below_set ?_ GE364.out | refine below_set ?_ GE388.out) | exact HB.out)) hb); clear HO380; clear BK356; clear BK364; clear BK388; clear HB; have HO380 := n0_; have BK356 := n1_; have BK364 := n2_; have BK388 := n3_; have HB := n4_; clear n0_ n1_ n2_ n3_ n4_; (try clear hb); (try clear hb2); (try clear hk); (try clear hi); have hcz208_0 : w207.cell? ⟨gb364, 0, none⟩ = some (.int .i64 t359) := (blk_cell BK364.out 0).trans rfl; have hcz208_1 : w207.cell? ⟨gb364, 1, none⟩ = some (.int .i64 t360) := (blk_cell BK364.out 1).trans rfl; have hcz208_2 : w207.cell? ⟨gb364, 2, none⟩ = some (.int .u32 t361) := (blk_cell BK364.out 2).trans rfl; have hcz208_3 : w207.cell? ⟨gb364, 3, none⟩ = some (.string t362) := (blk_cell BK364.out 3).trans rfl; have hfz208_0 := blk_frozen BK364.out 0; have hfz208_1 := blk_frozen BK364.out 1; have hfz208_2 := blk_frozen BK364.out 2; have hfz208_3 := blk_frozen BK364.out 3; have hcz209_0 : w207.cell? ⟨gb356, 0, none⟩ = some (.int .i64 (wrap64 (a0))) := (blk_cell BK356.out 0).trans rfl; have hcz209_1 : w207.cell? ⟨gb356, 1, none⟩ = some (.int .i64 (wrap64 (a1))) := (blk_cell BK356.out 1).trans rfl; have hcz209_2 : w207.cell? ⟨gb356, 2, none⟩ = some (.int .u32 a2) := (blk_cell BK356.out 2).trans rfl; have hcz209_3 : w207.cell? ⟨gb356, 3, none⟩ = some (.string (a3.extract 0 ((ji8) : Int).toNat)) := (blk_cell BK356.out 3).trans rfl; have hfz209_0 := blk_frozen BK356.out 0; have hfz209_1 := blk_frozen BK356.out 1; have hfz209_2 := blk_frozen BK356.out 2; have hfz209_3 := blk_frozen BK356.out 3; have hcz210_0 : w207.cell? ⟨gb388, 0, none⟩ = some (.int .i64 t383) := (blk_cell BK388.out 0).trans rfl; have hcz210_1 : w207.cell? ⟨gb388, 1, none⟩ = some (.int .i64 t384) := (blk_cell BK388.out 1).trans rfl; have hcz210_2 : w207.cell? ⟨gb388, 2, none⟩ = some (.int .u32 t385) := (blk_cell BK388.out 2).trans rfl; have hcz210_3 : w207.cell? ⟨gb388, 3, none⟩ = some (.string t386) := (blk_cell BK388.out 3).trans rfl; have hfz210_0 := blk_frozen BK388.out 0; have hfz210_1 := blk_frozen BK388.out 1; have hfz210_2 := blk_frozen BK388.out 2; have hfz210_3 := blk_frozen BK388.out 3))
                                          go_ret
                                          exact ⟨by first | rfl | (simp [errW_none, errW_some] <;> rfl) | (simp only [← hji8, ← hji129, ← hji132, ← hji134]; first | rfl | (simp [errW_none, errW_some] <;> rfl)) | (simp [*, errW_none, errW_some] <;> rfl), by repeat (first | (with_reducible first | exact HB.out | apply below_alloc | apply pw_below_drewN | apply below_drew1 | refine below_set ?_ GE356.out | refine below_set ?_ GE364.out | refine below_set ?_ GE388.out) | exact HB.out)⟩
                                        · replace c189 := Bool.eq_false_iff.mpr c189
                                          subst c189
                                          have H1 : (some true) = some r := by rw [if_neg (show ¬ (false = true) by decide)] at H; exact H
                                          clear H
                                          have H := H1
                                          clear H1
                                          obtain rfl := Option.some.inj H
                                          try go_wp2_with (first | ((with_reducible refine gate_callee (f := 29) rfl ?_); refine goesL_ (some 54) rfl rfl Try.func29 (by kernel_rfl) rfl #[.string t357] rfl (by (try simp only [List.map_toArray, List.map_cons, List.map_nil]); first | done | rfl | (simp only [List.length_drop, List.length_take]; rfl)) ?_; (with_reducible refine (icmp_Parse.calls t357 t359 t360 t361 t362 t363 _ A20.out).mono ?_); rintro e w211 ⟨rfl, hb⟩; (try clear A20); refine ⟨_, rfl, ?_⟩; have n0_ := Aside0.mk (blk_below (g := gb356) (o := .cells #[.int .i64 (wrap64 (a0)), .int .i64 (wrap64 (a1)), .int .u32 a2, .string (a3.extract 0 ((ji8) : Int).toNat)] 45 (0, 0)) (by (with_reducible repeat (first | refine blk_drewN ?_ _ | refine blk_drew ?_ | refine blk_alloc ?_ _)); exact BK356.out) hb); have n1_ := Aside0.mk (below_step (by repeat (first | (with_reducible first | exact HB.out | apply below_alloc | apply pw_below_drewN | apply below_drew1 | refine below_set ?_ GE356.out) | exact HB.out)) hb); clear BK356; clear HB; have BK356 := n0_; have HB := n1_; clear n0_ n1_; (try clear hb); (try clear hb2); (try clear hk); (try clear hi)) | ((with_reducible refine gate_dst (N := 15) rfl ?_); (try (refine gate_guard (by rfl) ?_; dsimp only)); refine box_event ?hg (N := 15) ?hd (cs := #[.int .i64 0, .int .i64 0, .int .u32 0, .string (⟨#[]⟩ : ByteArray)]) (t := 45) ?hr ?_; (case hd => rfl); (case hg => rfl); (case hr => first | (go_simp; done) | (go_simp; rfl)); intro gb364 hg w212 hbox hb; have n0_ := Aside0.mk (blk_below (g := gb356) (o := .cells #[.int .i64 (wrap64 (a0)), .int .i64 (wrap64 (a1)), .int .u32 a2, .string (a3.extract 0 ((ji8) : Int).toNat)] 45 (0, 0)) (by (with_reducible repeat (first | refine blk_drewN ?_ _ | refine blk_drew ?_ | refine blk_alloc ?_ _)); exact BK356.out) hb); have n1_ := Aside0.mk (below_step (by repeat (first | (with_reducible first | exact HB.out | apply below_alloc | apply pw_below_drewN | apply below_drew1 | refine below_set ?_ GE356.out) | exact HB.out)) hb); have n2_ := Aside0.mk (hbox); have n3_ := Aside0.mk ((by rw [hg]; exact (below_size (by repeat (first | (with_reducible first | exact HB.out | apply below_alloc | apply pw_below_drewN | apply below_drew1 | refine below_set ?_ GE356.out) | exact HB.out))) : w.heap.size ≤ gb364)); have n4_ := Aside0.mk ((by rw [hg]; exact (below_size (by repeat (first | (with_reducible first | exact HB.out | apply below_alloc | apply pw_below_drewN | apply below_drew1 | refine below_set ?_ GE356.out) | exact HB.out))) : w.heap.size ≤ gb364)); have n5_ := Aside0.mk ((by rw [hg]; exact Nat.ne_of_lt (blk_lt (g := gb356) (o := .cells #[.int .i64 (wrap64 (a0)), .int .i64 (wrap64 (a1)), .int .u32 a2, .string (a3.extract 0 ((ji8) : Int).toNat)] 45 (0, 0)) (by (with_reducible repeat (first | refine blk_drewN ?_ _ | refine blk_drew ?_ | refine blk_alloc ?_ _)); exact BK356.out)) : gb356 ≠ gb364)); have n6_ := Aside0.mk ((by rw [hg]; exact Nat.ne_of_gt (blk_lt (g := gb356) (o := .cells #[.int .i64 (wrap64 (a0)), .int .i64 (wrap64 (a1)), .int .u32 a2, .string (a3.extract 0 ((ji8) : Int).toNat)] 45 (0, 0)) (by (with_reducible repeat (first | refine blk_drewN ?_ _ | refine blk_drew ?_ | refine blk_alloc ?_ _)); exact BK356.out)) : gb364 ≠ gb356)); clear BK356; clear HB; have BK356 := n0_; have HB := n1_; have BK364 := n2_; have GW364 := n3_; have GE364 := n4_; have NB356_364 := n5_; have NB364_356 := n6_; clear n0_ n1_ n2_ n3_ n4_ n5_ n6_; clear hb hbox hg; have hnb213 := NB364_356.out; have hnc213 := NB356_364.out; have hcz214_0 : w212.cell? ⟨gb364, 0, none⟩ = some (.int .i64 0) := (blk_cell BK364.out 0).trans rfl; have hcz214_1 : w212.cell? ⟨gb364, 1, none⟩ = some (.int .i64 0) := (blk_cell BK364.out 1).trans rfl; have hcz214_2 : w212.cell? ⟨gb364, 2, none⟩ = some (.int .u32 0) := (blk_cell BK364.out 2).trans rfl; have hcz214_3 : w212.cell? ⟨gb364, 3, none⟩ = some (.string (⟨#[]⟩ : ByteArray)) := (blk_cell BK364.out 3).trans rfl; have hfz214_0 := blk_frozen BK364.out 0; have hfz214_1 := blk_frozen BK364.out 1; have hfz214_2 := blk_frozen BK364.out 2; have hfz214_3 := blk_frozen BK364.out 3) | ((with_reducible refine gate_dst (N := 63) rfl ?_); (try (refine gate_guard (by rfl) ?_; dsimp only)); refine Kb.Q_conv (Kd.int .u8) 5 rfl (N := 63) rfl 9 38 _ rfl t357 rfl Try.underlying9 Try.underlying38 Try.underlying5 (ok := fun _ => True) trivial (of_decide_eq_true (by first | (with_reducible assumption) | assumption)) ?_; intro v379 w215 ho216 hb hg_ hnew_; clear hg_ hnew_; (first | rw [← Ny378.out] at ho216 | (simp only [Int.reduceToNat] at ho216; rw [← Ny378.out] at ho216)); have n0_ := Aside0.mk (Kb.Q_lower ho216 (below_size (by repeat (first | (with_reducible first | exact HB.out | apply below_alloc | apply pw_below_drewN | apply below_drew1 | refine below_set ?_ GE356.out | refine below_set ?_ GE364.out) | exact HB.out)))); have n1_ := Aside0.mk (blk_below (g := gb356) (o := .cells #[.int .i64 (wrap64 (a0)), .int .i64 (wrap64 (a1)), .int .u32 a2, .string (a3.extract 0 ((ji8) : Int).toNat)] 45 (0, 0)) (by (with_reducible repeat (first | refine blk_drewN ?_ _ | refine blk_drew ?_ | refine blk_alloc ?_ _)); refine blk_far ?_ NB356_364.out _; (with_reducible repeat (first | refine blk_drewN ?_ _ | refine blk_drew ?_ | refine blk_alloc ?_ _)); refine blk_far ?_ NB356_364.out _; (with_reducible repeat (first | refine blk_drewN ?_ _ | refine blk_drew ?_ | refine blk_alloc ?_ _)); refine blk_far ?_ NB356_364.out _; (with_reducible repeat (first | refine blk_drewN ?_ _ | refine blk_drew ?_ | refine blk_alloc ?_ _)); refine blk_far ?_ NB356_364.out _; (with_reducible repeat (first | refine blk_drewN ?_ _ | refine blk_drew ?_ | refine blk_alloc ?_ _)); exact BK356.out) hb); have n2_ := Aside0.mk (blk_below (g := gb364) (o := .cells #[.int .i64 t359, .int .i64 t360, .int .u32 t361, .string t362] 45 (0, 0)) (by (with_reducible repeat (first | refine blk_drewN ?_ _ | refine blk_drew ?_ | refine blk_alloc ?_ _)); refine blk_put (cs := #[.int .i64 t359, .int .i64 t360, .int .u32 t361, .string (⟨#[]⟩ : ByteArray)]) ?_ 3 _ rfl; (with_reducible repeat (first | refine blk_drewN ?_ _ | refine blk_drew ?_ | refine blk_alloc ?_ _)); refine blk_put (cs := #[.int .i64 t359, .int .i64 t360, .int .u32 0, .string (⟨#[]⟩ : ByteArray)]) ?_ 2 _ rfl; (with_reducible repeat (first | refine blk_drewN ?_ _ | refine blk_drew ?_ | refine blk_alloc ?_ _)); refine blk_put (cs := #[.int .i64 t359, .int .i64 0, .int .u32 0, .string (⟨#[]⟩ : ByteArray)]) ?_ 1 _ rfl; (with_reducible repeat (first | refine blk_drewN ?_ _ | refine blk_drew ?_ | refine blk_alloc ?_ _)); refine blk_put (cs := #[.int .i64 0, .int .i64 0, .int .u32 0, .string (⟨#[]⟩ : ByteArray)]) ?_ 0 _ rfl; (with_reducible repeat (first | refine blk_drewN ?_ _ | refine blk_drew ?_ | refine blk_alloc ?_ _)); exact BK364.out) hb); have n3_ := Aside0.mk (below_step (by repeat (first | (with_reducible first | exact HB.out | apply below_alloc | apply pw_below_drewN | apply below_drew1 | refine below_set ?_ GE356.out | refine below_set ?_ GE364.out) | exact HB.out)) hb); clear BK356; clear BK364; clear HB; have HO380 := n0_; have BK356 := n1_; have BK364 := n2_; have HB := n3_; clear n0_ n1_ n2_ n3_; clear hb ho216))
                                          have n0_ := Aside0.mk (Kb.Q_drew HO380.out)
                                          have n1_ := Aside0.mk (blk_drew BK356.out)
                                          have n2_ := Aside0.mk (blk_drew BK364.out)
                                          have n3_ := Aside0.mk (below_drew1 HB.out)
                                          clear HO380
                                          clear BK356
                                          clear BK364
                                          clear HB
                                          have HO380 := n0_
                                          have BK356 := n1_
                                          have BK364 := n2_
                                          have HB := n3_
                                          clear n0_ n1_ n2_ n3_
                                          obtain ⟨Ao218, co218, eo218, _⟩ := Kb.Q_slice HO380.out
                                          (first | subst eo218 | (injection eo218 with f1_ f2_ f3_; have f4_ := f1_.symm; have f5_ := f3_.symm; clear f1_ f2_ f3_; subst f4_; subst f5_))
                                          have p381 : 0 ≤ ((ji129) : Int) := of_decide_eq_true (by first | (with_reducible assumption) | assumption)
                                          have q381 : (ji129) < (y378.length : Int) := of_decide_eq_true (by first | (with_reducible assumption) | assumption)
                                          obtain ⟨ad381, e381, hx381_0⟩ := Kd.at_int (Kb.Q_reads' HO380.out).2.2 (ji129) p381 q381
                                          cases e381
                                          replace p381 := eq_true p381
                                          replace q381 := eq_true q381
                                          have p135 : 0 ≤ ((ji129) : Int) := of_decide_eq_true (by first | (with_reducible assumption) | assumption)
                                          have q135 : ((ji129) : Int) < ((y378.length : Int) : Int) := of_decide_eq_true (by first | (with_reducible assumption) | assumption)
                                          obtain ⟨go135, co135, eo135, gb135, gl135, cl135, HG135⟩ := Kb.Q_form HO380.out (by omega)
                                          (first | cases eo135 | (injection eo135 with ea_ en_ ec_; (first | subst ea_ | (injection ea_ with ea_; subst ea_)); subst ec_; clear en_))
                                          have GB135 := Aside0.mk gb135
                                          have GG135 := Aside0.mk HG135
                                          clear gb135 gl135 HG135
                                          (first | simp only [add_at, Nat.zero_add] at hx381_0 | skip)
                                          obtain ⟨hx135_0, hf135_0⟩ := Kb.Q_cell 0 HO380.out ((ji129) : Int) p135 q135
                                          replace p135 := eq_true p135
                                          replace q135 := eq_true q135
                                          have HP219 := (Kb.Q_putg HO380.out ((ji129) : Int) (of_decide_eq_true (by first | (with_reducible assumption) | assumption)) (by have h_ : ((ji129) : Int) < ((y378.length : Int) : Int) := of_decide_eq_true (by first | (with_reducible assumption) | assumption); first | exact h_ | (have e_ := (Kb.Q_reads' HO380.out).1; omega) | simpa using h_) (Go.bits .xor .u8 (rd y378 (ji129)) (ji134))).1
                                          rw [← Ny382.out] at HP219
                                          have HQ219 := Aside0.mk HP219
                                          clear HP219
                                          refine start_ (n := 20) (S := fun w' => w'.cell? ⟨go135, ((ji129)).toNat, none⟩ = some (.int .u8 (rd y378 (ji129)))) (ds := [19]) #[false, false, false, false, false, false, false, false, false, false, false, false, false, false, false, false, false, false, false, false] (by kernel_rfl) rfl rfl (hx381_0) (fun hHeld => ?_); refine with_tabW weighbridgelaw07_IcmpBack.tab12 weighbridgelaw07_IcmpBack.bits12 (fun HT_ HW_ => ?_)
                                          generalize w215.drew = w217 at HO380 BK356 BK364 HB GG135 HQ219 hf135_0 hx135_0 hx381_0 hHeld ⊢
                                          refine pure_ (i := 0) (N := some 64) (v := ?_) (a' := ?_) #[true, false, false, false, false, false, false, false, false, false, false, false, false, false, false, false, false, false, false, false] rfl rfl (any_of HT_.out (by kernel_rfl)) (fun _ _ _ h => h) (Or.inl ⟨by rfl, ?_⟩) ?_ ?_
                                          rotate_left
                                          · intro w'
                                            go_simp
                                            with_reducible rfl
                                          rotate_left
                                          · simp only [Act.put, List.setIfInBounds_toArray, List.set_cons_zero, List.set_cons_succ, i64_w, i32_w]
                                            rfl
                                          refine pure_ (i := 1) (N := some 65) (v := ?_) (a' := ?_) #[true, true, false, false, false, false, false, false, false, false, false, false, false, false, false, false, false, false, false, false] rfl rfl (any_of HT_.out (by kernel_rfl)) (fun _ _ _ h => h) (Or.inl ⟨by rfl, ?_⟩) ?_ ?_
                                          rotate_left
                                          · intro w'
                                            go_simp
                                            with_reducible rfl
                                          rotate_left
                                          · simp only [Act.put, List.setIfInBounds_toArray, List.set_cons_zero, List.set_cons_succ, i64_w, i32_w]
                                            rfl
                                          refine pure_ (i := 2) (N := some 66) (v := ?_) (a' := ?_) #[true, true, true, false, false, false, false, false, false, false, false, false, false, false, false, false, false, false, false, false] rfl rfl (any_of HT_.out (by kernel_rfl)) (fun _ _ _ h => h) (Or.inl ⟨by rfl, ?_⟩) ?_ ?_
                                          rotate_left
                                          · intro w'
                                            go_simp
                                            with_reducible rfl
                                          rotate_left
                                          · simp only [Act.put, List.setIfInBounds_toArray, List.set_cons_zero, List.set_cons_succ, i64_w, i32_w]
                                            rfl
                                          refine pure_ (i := 3) (N := some 67) (v := ?_) (a' := ?_) #[true, true, true, true, false, false, false, false, false, false, false, false, false, false, false, false, false, false, false, false] rfl rfl (any_of HT_.out (by kernel_rfl)) (fun _ _ _ h => h) (Or.inl ⟨by rfl, ?_⟩) ?_ ?_
                                          rotate_left
                                          · intro w'
                                            go_simp
                                            with_reducible rfl
                                          rotate_left
                                          · simp only [Act.put, List.setIfInBounds_toArray, List.set_cons_zero, List.set_cons_succ, i64_w, i32_w]
                                            rfl
                                          refine pure_ (i := 4) (N := some 68) (v := ?_) (a' := ?_) #[true, true, true, true, true, false, false, false, false, false, false, false, false, false, false, false, false, false, false, false] rfl rfl (any_of HT_.out (by kernel_rfl)) (fun _ _ _ h => h) (Or.inl ⟨by rfl, ?_⟩) ?_ ?_
                                          rotate_left
                                          · intro w'
                                            go_simp
                                            with_reducible rfl
                                          rotate_left
                                          · simp only [Act.put, List.setIfInBounds_toArray, List.set_cons_zero, List.set_cons_succ, i64_w, i32_w]
                                            rfl
                                          refine pure_ (i := 5) (N := some 69) (v := ?_) (a' := ?_) #[true, true, true, true, true, true, false, false, false, false, false, false, false, false, false, false, false, false, false, false] rfl rfl (any_of HT_.out (by kernel_rfl)) (fun _ _ _ h => h) (Or.inl ⟨by rfl, ?_⟩) ?_ ?_
                                          rotate_left
                                          · intro w'
                                            go_simp
                                            with_reducible rfl
                                          rotate_left
                                          · simp only [Act.put, List.setIfInBounds_toArray, List.set_cons_zero, List.set_cons_succ, i64_w, i32_w]
                                            rfl
                                          refine pure_ (i := 6) (N := some 70) (v := ?_) (a' := ?_) #[true, true, true, true, true, true, true, false, false, false, false, false, false, false, false, false, false, false, false, false] rfl rfl (any_of HT_.out (by kernel_rfl)) (fun _ _ _ h => h) (Or.inl ⟨by rfl, ?_⟩) ?_ ?_
                                          rotate_left
                                          · intro w'
                                            go_simp
                                            with_reducible rfl
                                          rotate_left
                                          · simp only [Act.put, List.setIfInBounds_toArray, List.set_cons_zero, List.set_cons_succ, i64_w, i32_w]
                                            rfl
                                          refine pure_ (i := 7) (N := some 71) (v := ?_) (a' := ?_) #[true, true, true, true, true, true, true, true, false, false, false, false, false, false, false, false, false, false, false, false] rfl rfl (any_of HT_.out (by kernel_rfl)) (fun _ _ _ h => h) (Or.inl ⟨by rfl, ?_⟩) ?_ ?_
                                          rotate_left
                                          · intro w'
                                            go_simp
                                            with_reducible rfl
                                          rotate_left
                                          · simp only [Act.put, List.setIfInBounds_toArray, List.set_cons_zero, List.set_cons_succ, i64_w, i32_w]
                                            rfl
                                          refine pure_ (i := 8) (N := some 72) (v := ?_) (a' := ?_) #[true, true, true, true, true, true, true, true, true, false, false, false, false, false, false, false, false, false, false, false] rfl rfl (any_of HT_.out (by kernel_rfl)) (fun _ _ _ h => h) (Or.inl ⟨by rfl, ?_⟩) ?_ ?_
                                          rotate_left
                                          · intro w'
                                            go_simp
                                            with_reducible rfl
                                          rotate_left
                                          · simp only [Act.put, List.setIfInBounds_toArray, List.set_cons_zero, List.set_cons_succ, i64_w, i32_w]
                                            rfl
                                          refine pure_ (i := 9) (N := some 73) (v := ?_) (a' := ?_) #[true, true, true, true, true, true, true, true, true, true, false, false, false, false, false, false, false, false, false, false] rfl rfl (any_of HT_.out (by kernel_rfl)) (fun _ _ _ h => h) (Or.inl ⟨by rfl, ?_⟩) ?_ ?_
                                          rotate_left
                                          · intro w'
                                            go_simp
                                            with_reducible rfl
                                          rotate_left
                                          · simp only [Act.put, List.setIfInBounds_toArray, List.set_cons_zero, List.set_cons_succ, i64_w, i32_w]
                                            rfl
                                          refine pure_ (i := 10) (N := some 74) (v := ?_) (a' := ?_) #[true, true, true, true, true, true, true, true, true, true, true, false, false, false, false, false, false, false, false, false] rfl rfl (any_of HT_.out (by kernel_rfl)) (fun _ _ _ h => h) (Or.inl ⟨by rfl, ?_⟩) ?_ ?_
                                          rotate_left
                                          · intro w'
                                            go_simp
                                            with_reducible rfl
                                          rotate_left
                                          · simp only [Act.put, List.setIfInBounds_toArray, List.set_cons_zero, List.set_cons_succ, i64_w, i32_w]
                                            rfl
                                          refine pure_ (i := 11) (N := some 75) (v := ?_) (a' := ?_) #[true, true, true, true, true, true, true, true, true, true, true, true, false, false, false, false, false, false, false, false] rfl rfl (any_of HT_.out (by kernel_rfl)) (fun _ _ _ h => h) (Or.inl ⟨by rfl, ?_⟩) ?_ ?_
                                          rotate_left
                                          · intro w'
                                            go_simp
                                            with_reducible rfl
                                          rotate_left
                                          · simp only [Act.put, List.setIfInBounds_toArray, List.set_cons_zero, List.set_cons_succ, i64_w, i32_w]
                                            rfl
                                          refine pure_ (i := 12) (N := some 76) (v := ?_) (a' := ?_) #[true, true, true, true, true, true, true, true, true, true, true, true, true, false, false, false, false, false, false, false] rfl rfl (any_of HT_.out (by kernel_rfl)) (fun _ _ _ h => h) (Or.inl ⟨by rfl, ?_⟩) ?_ ?_
                                          rotate_left
                                          · intro w'
                                            go_simp
                                            with_reducible rfl
                                          rotate_left
                                          · simp only [Act.put, List.setIfInBounds_toArray, List.set_cons_zero, List.set_cons_succ, i64_w, i32_w]
                                            rfl
                                          refine pure_ (i := 14) (N := some 78) (v := ?_) (a' := ?_) #[true, true, true, true, true, true, true, true, true, true, true, true, true, false, true, false, false, false, false, false] rfl rfl (any_of HT_.out (by kernel_rfl)) (fun _ _ _ h => h) (Or.inl ⟨by rfl, ?_⟩) ?_ ?_
                                          rotate_left
                                          · intro w'
                                            go_simp
                                            with_reducible rfl
                                          rotate_left
                                          · simp only [Act.put, List.setIfInBounds_toArray, List.set_cons_zero, List.set_cons_succ, i64_w, i32_w]
                                            rfl
                                          refine pure_ (i := 15) (N := some 79) (v := ?_) (a' := ?_) #[true, true, true, true, true, true, true, true, true, true, true, true, true, false, true, true, false, false, false, false] rfl rfl (any_of HT_.out (by kernel_rfl)) (fun _ _ _ h => h) (Or.inl ⟨by rfl, ?_⟩) ?_ ?_
                                          rotate_left
                                          · intro w'
                                            go_simp
                                            with_reducible rfl
                                          rotate_left
                                          · simp only [Act.put, List.setIfInBounds_toArray, List.set_cons_zero, List.set_cons_succ, i64_w, i32_w]
                                            rfl
                                          refine pure_ (i := 16) (N := some 80) (v := ?_) (a' := ?_) #[true, true, true, true, true, true, true, true, true, true, true, true, true, false, true, true, true, false, false, false] rfl rfl (any_of HT_.out (by kernel_rfl)) (fun _ _ _ h => h) (Or.inl ⟨by rfl, ?_⟩) ?_ ?_
                                          rotate_left
                                          · intro w'
                                            go_simp
                                            with_reducible rfl
                                          rotate_left
                                          · simp only [Act.put, List.setIfInBounds_toArray, List.set_cons_zero, List.set_cons_succ, i64_w, i32_w]
                                            rfl
                                          refine take_ (i := 13) (N := some 77) (v := ?_) (a' := ?_) #[true, true, true, true, true, true, true, true, true, true, true, true, true, true, true, true, true, false, false, false] rfl rfl (take_ofW HT_.out HW_.out (by kernel_rfl)) (fun _ _ _ h => h) (Or.inl ⟨by rfl, ?_⟩) hHeld ?_ ?_
                                          rotate_left
                                          · intro w' s0
                                            go_simp
                                            with_reducible rfl
                                          rotate_left
                                          · simp only [Act.put, List.setIfInBounds_toArray, List.set_cons_zero, List.set_cons_succ, i64_w, i32_w]
                                            rfl
                                          refine pure_ (i := 17) (N := some 81) (v := ?_) (a' := ?_) #[true, true, true, true, true, true, true, true, true, true, true, true, true, true, true, true, true, true, false, false] rfl rfl (any_of HT_.out (by kernel_rfl)) (fun _ _ _ h => h) (Or.inl ⟨by rfl, ?_⟩) ?_ ?_
                                          rotate_left
                                          · intro w'
                                            go_simp
                                            with_reducible rfl
                                          rotate_left
                                          · simp only [Act.put, List.setIfInBounds_toArray, List.set_cons_zero, List.set_cons_succ, i64_w, i32_w]
                                            rfl
                                          refine pure_ (i := 18) (N := some 82) (v := ?_) (a' := ?_) #[true, true, true, true, true, true, true, true, true, true, true, true, true, true, true, true, true, true, true, false] rfl rfl (any_of HT_.out (by kernel_rfl)) (fun _ _ _ h => h) (Or.inl ⟨by rfl, ?_⟩) ?_ ?_
                                          rotate_left
                                          · intro w'
                                            go_simp
                                            with_reducible rfl
                                          rotate_left
                                          · simp only [Act.put, List.setIfInBounds_toArray, List.set_cons_zero, List.set_cons_succ, i64_w, i32_w]
                                            rfl
                                          refine last_ (i := 19) (N := none) #[true, true, true, true, true, true, true, true, true, true, true, true, true, true, true, true, true, true, true, true] rfl rfl (one_of HT_.out (by kernel_rfl)) (by decide) (fun K hK => ?_)
                                          refine skip_ (w1 := ?_) (by rfl) rfl ?_ ?_
                                          rotate_left
                                          · go_simp
                                            rfl
                                          refine hK.out _ _ ?_
                                          clear hK K
                                          refine done_ (done_of HT_.out (by kernel_rfl)) ?_
                                          have n0_ : Aside0 (Kb.Q (Kd.int .u8) 5 (w217.setCell ⟨go135, ((ji129) : Int).toNat, none⟩ (.int .u8 (Go.bits .xor .u8 (rd y378 (ji129)) (ji134)))) w.heap.size (fun _ => True) (.slice (some ⟨go135, 0, none⟩) y378.length co218) y382) := ⟨by (with_reducible repeat (first | apply Kb.Q_alloc | apply Kb.Q_drewN | apply Kb.Q_drew)); exact HQ219.out⟩
                                          have n1_ : Aside0 ((w217.setCell ⟨go135, ((ji129) : Int).toNat, none⟩ (.int .u8 (Go.bits .xor .u8 (rd y378 (ji129)) (ji134)))).heap[gb356]? = some (.cells #[.int .i64 (wrap64 (a0)), .int .i64 (wrap64 (a1)), .int .u32 a2, .string (a3.extract 0 ((ji8) : Int).toNat)] 45 (0, 0))) := ⟨by (with_reducible repeat (first | refine blk_drewN ?_ _ | refine blk_drew ?_ | refine blk_alloc ?_ _)); refine blk_far ?_ (by have h_ := Kb.Q_ne HO380.out BK356.out (by decide); intro e_; exact h_ (by rw [e_]; rfl)) _; (with_reducible repeat (first | refine blk_drewN ?_ _ | refine blk_drew ?_ | refine blk_alloc ?_ _)); exact BK356.out⟩
                                          have n2_ : Aside0 ((w217.setCell ⟨go135, ((ji129) : Int).toNat, none⟩ (.int .u8 (Go.bits .xor .u8 (rd y378 (ji129)) (ji134)))).heap[gb364]? = some (.cells #[.int .i64 t359, .int .i64 t360, .int .u32 t361, .string t362] 45 (0, 0))) := ⟨by (with_reducible repeat (first | refine blk_drewN ?_ _ | refine blk_drew ?_ | refine blk_alloc ?_ _)); refine blk_far ?_ (by have h_ := Kb.Q_ne HO380.out BK364.out (by decide); intro e_; exact h_ (by rw [e_]; rfl)) _; (with_reducible repeat (first | refine blk_drewN ?_ _ | refine blk_drew ?_ | refine blk_alloc ?_ _)); exact BK364.out⟩
                                          have n3_ : Aside0 (Below w.heap.size w (w217.setCell ⟨go135, ((ji129) : Int).toNat, none⟩ (.int .u8 (Go.bits .xor .u8 (rd y378 (ji129)) (ji134))))) := ⟨by repeat (first | (with_reducible first | exact HB.out | apply below_alloc | apply pw_below_drewN | apply below_drew1 | refine below_set ?_ GB135.out | refine below_set ?_ GE356.out | refine below_set ?_ GE364.out) | exact HB.out)⟩
                                          (try clear HO380)
                                          (try clear BK356)
                                          (try clear BK364)
                                          (try clear HB)
                                          generalize (w217.setCell ⟨go135, ((ji129) : Int).toNat, none⟩ (.int .u8 (Go.bits .xor .u8 (rd y378 (ji129)) (ji134)))) = w220 at n0_ n1_ n2_ n3_ ⊢
                                          have HO380 := n0_
                                          have BK356 := n1_
                                          have BK364 := n2_
                                          have HB := n3_
                                          clear n0_ n1_ n2_ n3_
                                          have hcv221 := Kb.Q_string (P := Try.prog) Try.underlying38 Try.underlying5 Try.underlying9 (HO380.out)
                                          try go_wp2_with (first | ((with_reducible refine gate_callee (f := 29) rfl ?_); refine goesL_ (some 86) rfl rfl Try.func29 (by kernel_rfl) rfl #[.string (strOfNums y382)] rfl (by (try simp only [List.map_toArray, List.map_cons, List.map_nil]); first | done | rfl | (simp only [List.length_drop, List.length_take]; rfl)) ?_; (with_reducible refine (icmp_Parse.calls (strOfNums y382) t383 t384 t385 t386 t387 _ A136.out).mono ?_); rintro e w222 ⟨rfl, hb⟩; (try clear A136); refine ⟨_, rfl, ?_⟩; have n0_ := Aside0.mk (Kb.Q_below (by (with_reducible repeat (first | apply Kb.Q_alloc | apply Kb.Q_drewN | apply Kb.Q_drew)); exact HO380.out) hb); have n1_ := Aside0.mk (blk_below (g := gb356) (o := .cells #[.int .i64 (wrap64 (a0)), .int .i64 (wrap64 (a1)), .int .u32 a2, .string (a3.extract 0 ((ji8) : Int).toNat)] 45 (0, 0)) (by (with_reducible repeat (first | refine blk_drewN ?_ _ | refine blk_drew ?_ | refine blk_alloc ?_ _)); exact BK356.out) hb); have n2_ := Aside0.mk (blk_below (g := gb364) (o := .cells #[.int .i64 t359, .int .i64 t360, .int .u32 t361, .string t362] 45 (0, 0)) (by (with_reducible repeat (first | refine blk_drewN ?_ _ | refine blk_drew ?_ | refine blk_alloc ?_ _)); exact BK364.out) hb); have n3_ := Aside0.mk (below_step (by repeat (first | (with_reducible first | exact HB.out | apply below_alloc | apply pw_below_drewN | apply below_drew1 | refine below_set ?_ GE356.out | refine below_set ?_ GE364.out) | exact HB.out)) hb); clear HO380; clear BK356; clear BK364; clear HB; have HO380 := n0_; have BK356 := n1_; have BK364 := n2_; have HB := n3_; clear n0_ n1_ n2_ n3_; (try clear hb); (try clear hb2); (try clear hk); (try clear hi)) | ((with_reducible refine gate_dst (N := 18) rfl ?_); (try (refine gate_guard (by rfl) ?_; dsimp only)); refine box_event ?hg (N := 18) ?hd (cs := #[.int .i64 0, .int .i64 0, .int .u32 0, .string (⟨#[]⟩ : ByteArray)]) (t := 45) ?hr ?_; (case hd => rfl); (case hg => rfl); (case hr => first | (go_simp; done) | (go_simp; rfl)); intro gb388 hg w223 hbox hb; have n0_ := Aside0.mk (Kb.Q_below (by (with_reducible repeat (first | apply Kb.Q_alloc | apply Kb.Q_drewN | apply Kb.Q_drew)); exact HO380.out) hb); have n1_ := Aside0.mk (blk_below (g := gb356) (o := .cells #[.int .i64 (wrap64 (a0)), .int .i64 (wrap64 (a1)), .int .u32 a2, .string (a3.extract 0 ((ji8) : Int).toNat)] 45 (0, 0)) (by (with_reducible repeat (first | refine blk_drewN ?_ _ | refine blk_drew ?_ | refine blk_alloc ?_ _)); exact BK356.out) hb); have n2_ := Aside0.mk (blk_below (g := gb364) (o := .cells #[.int .i64 t359, .int .i64 t360, .int .u32 t361, .string t362] 45 (0, 0)) (by (with_reducible repeat (first | refine blk_drewN ?_ _ | refine blk_drew ?_ | refine blk_alloc ?_ _)); exact BK364.out) hb); have n3_ := Aside0.mk (below_step (by repeat (first | (with_reducible first | exact HB.out | apply below_alloc | apply pw_below_drewN | apply below_drew1 | refine below_set ?_ GE356.out | refine below_set ?_ GE364.out) | exact HB.out)) hb); have n4_ := Aside0.mk (hbox); have n5_ := Aside0.mk ((by rw [hg]; exact (below_size (by repeat (first | (with_reducible first | exact HB.out | apply below_alloc | apply pw_below_drewN | apply below_drew1 | refine below_set ?_ GE356.out | refine below_set ?_ GE364.out) | exact HB.out))) : w.heap.size ≤ gb388)); have n6_ := Aside0.mk ((by rw [hg]; exact (below_size (by repeat (first | (with_reducible first | exact HB.out | apply below_alloc | apply pw_below_drewN | apply below_drew1 | refine below_set ?_ GE356.out | refine below_set ?_ GE364.out) | exact HB.out))) : w.heap.size ≤ gb388)); have n7_ := Aside0.mk ((by rw [hg]; exact Nat.ne_of_lt (blk_lt (g := gb356) (o := .cells #[.int .i64 (wrap64 (a0)), .int .i64 (wrap64 (a1)), .int .u32 a2, .string (a3.extract 0 ((ji8) : Int).toNat)] 45 (0, 0)) (by (with_reducible repeat (first | refine blk_drewN ?_ _ | refine blk_drew ?_ | refine blk_alloc ?_ _)); exact BK356.out)) : gb356 ≠ gb388)); have n8_ := Aside0.mk ((by rw [hg]; exact Nat.ne_of_gt (blk_lt (g := gb356) (o := .cells #[.int .i64 (wrap64 (a0)), .int .i64 (wrap64 (a1)), .int .u32 a2, .string (a3.extract 0 ((ji8) : Int).toNat)] 45 (0, 0)) (by (with_reducible repeat (first | refine blk_drewN ?_ _ | refine blk_drew ?_ | refine blk_alloc ?_ _)); exact BK356.out)) : gb388 ≠ gb356)); have n9_ := Aside0.mk ((by rw [hg]; exact Nat.ne_of_lt (blk_lt (g := gb364) (o := .cells #[.int .i64 t359, .int .i64 t360, .int .u32 t361, .string t362] 45 (0, 0)) (by (with_reducible repeat (first | refine blk_drewN ?_ _ | refine blk_drew ?_ | refine blk_alloc ?_ _)); exact BK364.out)) : gb364 ≠ gb388)); have n10_ := Aside0.mk ((by rw [hg]; exact Nat.ne_of_gt (blk_lt (g := gb364) (o := .cells #[.int .i64 t359, .int .i64 t360, .int .u32 t361, .string t362] 45 (0, 0)) (by (with_reducible repeat (first | refine blk_drewN ?_ _ | refine blk_drew ?_ | refine blk_alloc ?_ _)); exact BK364.out)) : gb388 ≠ gb364)); clear HO380; clear BK356; clear BK364; clear HB; have HO380 := n0_; have BK356 := n1_; have BK364 := n2_; have HB := n3_; have BK388 := n4_; have GW388 := n5_; have GE388 := n6_; have NB356_388 := n7_; have NB388_356 := n8_; have NB364_388 := n9_; have NB388_364 := n10_; clear n0_ n1_ n2_ n3_ n4_ n5_ n6_ n7_ n8_ n9_ n10_; clear hb hbox hg; have hnb224 := NB388_356.out; have hnc224 := NB356_388.out; have hnb225 := NB388_364.out; have hnc225 := NB364_388.out; have hcz226_0 : w223.cell? ⟨gb388, 0, none⟩ = some (.int .i64 0) := (blk_cell BK388.out 0).trans rfl; have hcz226_1 : w223.cell? ⟨gb388, 1, none⟩ = some (.int .i64 0) := (blk_cell BK388.out 1).trans rfl; have hcz226_2 : w223.cell? ⟨gb388, 2, none⟩ = some (.int .u32 0) := (blk_cell BK388.out 2).trans rfl; have hcz226_3 : w223.cell? ⟨gb388, 3, none⟩ = some (.string (⟨#[]⟩ : ByteArray)) := (blk_cell BK388.out 3).trans rfl; have hfz226_0 := blk_frozen BK388.out 0; have hfz226_1 := blk_frozen BK388.out 1; have hfz226_2 := blk_frozen BK388.out 2; have hfz226_3 := blk_frozen BK388.out 3; have hcz227_0 : w223.cell? ⟨gb356, 0, none⟩ = some (.int .i64 (wrap64 (a0))) := (blk_cell BK356.out 0).trans rfl; have hcz227_1 : w223.cell? ⟨gb356, 1, none⟩ = some (.int .i64 (wrap64 (a1))) := (blk_cell BK356.out 1).trans rfl; have hcz227_2 : w223.cell? ⟨gb356, 2, none⟩ = some (.int .u32 a2) := (blk_cell BK356.out 2).trans rfl; have hcz227_3 : w223.cell? ⟨gb356, 3, none⟩ = some (.string (a3.extract 0 ((ji8) : Int).toNat)) := (blk_cell BK356.out 3).trans rfl; have hfz227_0 := blk_frozen BK356.out 0; have hfz227_1 := blk_frozen BK356.out 1; have hfz227_2 := blk_frozen BK356.out 2; have hfz227_3 := blk_frozen BK356.out 3) | ((with_reducible refine gate_callee (f := 25) rfl ?_); refine goesL_ (some 91) rfl rfl Try.func25 (by kernel_rfl) rfl #[.agg #[.int .i64 (wrap64 (a0)), .int .i64 (wrap64 (a1)), .int .u32 a2, .string (a3.extract 0 ((ji8) : Int).toNat)]] rfl (by (try simp only [List.map_toArray, List.map_cons, List.map_nil]); first | done | (simp only [hji8]; rfl) | rfl | (simp only [List.length_drop, List.length_take]; rfl)) ?_; (with_reducible refine (icmp_MTU.calls (wrap64 (a0)) (wrap64 (a1)) a2 (a3.extract 0 ((ji8) : Int).toNat) t389 false _ A137.out).mono ?_); rintro e w228 ⟨rfl, hb⟩; (try clear A137); refine ⟨_, rfl, ?_⟩; have n0_ := Aside0.mk (Kb.Q_below (by (with_reducible repeat (first | apply Kb.Q_alloc | apply Kb.Q_drewN | apply Kb.Q_drew)); exact (Kb.Q_mono (Kb.Q_far (p := ⟨gb388, 3, none⟩) (Kb.Q_far (p := ⟨gb388, 2, none⟩) (Kb.Q_far (p := ⟨gb388, 1, none⟩) (Kb.Q_far (p := ⟨gb388, 0, none⟩) (Kb.Q_types HO380.out BK388.out (by decide)) (fun _ hk => hk.2) (.int .i64 t383)) (fun _ hk => hk.2) (.int .i64 t384)) (fun _ hk => hk.2) (.int .u32 t385)) (fun _ hk => hk.2) (.string t386)) (fun _ h_ => h_.1))) hb); have n1_ := Aside0.mk (blk_below (g := gb356) (o := .cells #[.int .i64 (wrap64 (a0)), .int .i64 (wrap64 (a1)), .int .u32 a2, .string (a3.extract 0 ((ji8) : Int).toNat)] 45 (0, 0)) (by (with_reducible repeat (first | refine blk_drewN ?_ _ | refine blk_drew ?_ | refine blk_alloc ?_ _)); refine blk_far ?_ NB356_388.out _; (with_reducible repeat (first | refine blk_drewN ?_ _ | refine blk_drew ?_ | refine blk_alloc ?_ _)); refine blk_far ?_ NB356_388.out _; (with_reducible repeat (first | refine blk_drewN ?_ _ | refine blk_drew ?_ | refine blk_alloc ?_ _)); refine blk_far ?_ NB356_388.out _; (with_reducible repeat (first | refine blk_drewN ?_ _ | refine blk_drew ?_ | refine blk_alloc ?_ _)); refine blk_far ?_ NB356_388.out _; (with_reducible repeat (first | refine blk_drewN ?_ _ | refine blk_drew ?_ | refine blk_alloc ?_ _)); exact BK356.out) hb); have n2_ := Aside0.mk (blk_below (g := gb364) (o := .cells #[.int .i64 t359, .int .i64 t360, .int .u32 t361, .string t362] 45 (0, 0)) (by (with_reducible repeat (first | refine blk_drewN ?_ _ | refine blk_drew ?_ | refine blk_alloc ?_ _)); refine blk_far ?_ NB364_388.out _; (with_reducible repeat (first | refine blk_drewN ?_ _ | refine blk_drew ?_ | refine blk_alloc ?_ _)); refine blk_far ?_ NB364_388.out _; (with_reducible repeat (first | refine blk_drewN ?_ _ | refine blk_drew ?_ | refine blk_alloc ?_ _)); refine blk_far ?_ NB364_388.out _; (with_reducible repeat (first | refine blk_drewN ?_ _ | refine blk_drew ?_ | refine blk_alloc ?_ _)); refine blk_far ?_ NB364_388.out _; (with_reducible repeat (first | refine blk_drewN ?_ _ | refine blk_drew ?_ | refine blk_alloc ?_ _)); exact BK364.out) hb); have n3_ := Aside0.mk (blk_below (g := gb388) (o := .cells #[.int .i64 t383, .int .i64 t384, .int .u32 t385, .string t386] 45 (0, 0)) (by (with_reducible repeat (first | refine blk_drewN ?_ _ | refine blk_drew ?_ | refine blk_alloc ?_ _)); refine blk_put (cs := #[.int .i64 t383, .int .i64 t384, .int .u32 t385, .string (⟨#[]⟩ : ByteArray)]) ?_ 3 _ rfl; (with_reducible repeat (first | refine blk_drewN ?_ _ | refine blk_drew ?_ | refine blk_alloc ?_ _)); refine blk_put (cs := #[.int .i64 t383, .int .i64 t384, .int .u32 0, .string (⟨#[]⟩ : ByteArray)]) ?_ 2 _ rfl; (with_reducible repeat (first | refine blk_drewN ?_ _ | refine blk_drew ?_ | refine blk_alloc ?_ _)); refine blk_put (cs := #[.int .i64 t383, .int .i64 0, .int .u32 0, .string (⟨#[]⟩ : ByteArray)]) ?_ 1 _ rfl; (with_reducible repeat (first | refine blk_drewN ?_ _ | refine blk_drew ?_ | refine blk_alloc ?_ _)); refine blk_put (cs := #[.int .i64 0, .int .i64 0, .int .u32 0, .string (⟨#[]⟩ : ByteArray)]) ?_ 0 _ rfl; (with_reducible repeat (first | refine blk_drewN ?_ _ | refine blk_drew ?_ | refine blk_alloc ?_ _)); exact BK388.out) hb); have n4_ := Aside0.mk (below_step (by repeat (first | (with_reducible first | exact HB.out | apply below_alloc | apply pw_below_drewN | apply below_drew1 | refine below_set ?_ GE356.out | refine below_set ?_ GE364.out | refine below_set ?_ GE388.out) | exact HB.out)) hb); clear HO380; clear BK356; clear BK364; clear BK388; clear HB; have HO380 := n0_; have BK356 := n1_; have BK364 := n2_; have BK388 := n3_; have HB := n4_; clear n0_ n1_ n2_ n3_ n4_; (try clear hb); (try clear hb2); (try clear hk); (try clear hi); have hcz229_0 : w228.cell? ⟨gb364, 0, none⟩ = some (.int .i64 t359) := (blk_cell BK364.out 0).trans rfl; have hcz229_1 : w228.cell? ⟨gb364, 1, none⟩ = some (.int .i64 t360) := (blk_cell BK364.out 1).trans rfl; have hcz229_2 : w228.cell? ⟨gb364, 2, none⟩ = some (.int .u32 t361) := (blk_cell BK364.out 2).trans rfl; have hcz229_3 : w228.cell? ⟨gb364, 3, none⟩ = some (.string t362) := (blk_cell BK364.out 3).trans rfl; have hfz229_0 := blk_frozen BK364.out 0; have hfz229_1 := blk_frozen BK364.out 1; have hfz229_2 := blk_frozen BK364.out 2; have hfz229_3 := blk_frozen BK364.out 3; have hcz230_0 : w228.cell? ⟨gb356, 0, none⟩ = some (.int .i64 (wrap64 (a0))) := (blk_cell BK356.out 0).trans rfl; have hcz230_1 : w228.cell? ⟨gb356, 1, none⟩ = some (.int .i64 (wrap64 (a1))) := (blk_cell BK356.out 1).trans rfl; have hcz230_2 : w228.cell? ⟨gb356, 2, none⟩ = some (.int .u32 a2) := (blk_cell BK356.out 2).trans rfl; have hcz230_3 : w228.cell? ⟨gb356, 3, none⟩ = some (.string (a3.extract 0 ((ji8) : Int).toNat)) := (blk_cell BK356.out 3).trans rfl; have hfz230_0 := blk_frozen BK356.out 0; have hfz230_1 := blk_frozen BK356.out 1; have hfz230_2 := blk_frozen BK356.out 2; have hfz230_3 := blk_frozen BK356.out 3; have hcz231_0 : w228.cell? ⟨gb388, 0, none⟩ = some (.int .i64 t383) := (blk_cell BK388.out 0).trans rfl; have hcz231_1 : w228.cell? ⟨gb388, 1, none⟩ = some (.int .i64 t384) := (blk_cell BK388.out 1).trans rfl; have hcz231_2 : w228.cell? ⟨gb388, 2, none⟩ = some (.int .u32 t385) := (blk_cell BK388.out 2).trans rfl; have hcz231_3 : w228.cell? ⟨gb388, 3, none⟩ = some (.string t386) := (blk_cell BK388.out 3).trans rfl; have hfz231_0 := blk_frozen BK388.out 0; have hfz231_1 := blk_frozen BK388.out 1; have hfz231_2 := blk_frozen BK388.out 2; have hfz231_3 := blk_frozen BK388.out 3))
                                          go_ret
                                          exact ⟨by first | rfl | (simp [errW_none, errW_some] <;> rfl) | (simp only [← hji8, ← hji129, ← hji132, ← hji134]; first | rfl | (simp [errW_none, errW_some] <;> rfl)) | (simp [*, errW_none, errW_some] <;> rfl), by repeat (first | (with_reducible first | exact HB.out | apply below_alloc | apply pw_below_drewN | apply below_drew1 | refine below_set ?_ GE356.out | refine below_set ?_ GE364.out | refine below_set ?_ GE388.out) | exact HB.out)⟩
                                      · rw [if_neg c188] at H
                                        have c188b0 : (t390 == false) = false := by simpa using c188
                                        (try (have c188b1 : decide (t390 = false) = false := by simpa using c188))
                                        (try (have c188b2 : (t390 == false) = false := by simpa using c188))
                                        (try (have c188b3 : ¬ (t390 = false) := by simpa using c188))
                                        clear c188
                                        exact absurd ((Option.some.inj H).trans hr_) (by decide)
                                  · rw [if_neg c142] at H
                                    have c142b0 : (t383 == 0 && (t384 == 0 && (t385 == 0 && (t386.toList == ([] : List UInt8))))) = false := by simpa using c142
                                    (try (have c142bq : (t383 = 0 ∧ (t384 = 0 ∧ (t385 = 0 ∧ (t386.toList = ([] : List UInt8))))) = False := eq_false (fun h_ => by have e_ : (t383 == 0 && (t384 == 0 && (t385 == 0 && (t386.toList == ([] : List UInt8))))) = true := (by simpa using h_); rw [e_] at c142b0; cases c142b0)))
                                    (try (have c142b1 : decide (t383 = 0 && (t384 == 0 && (t385 == 0 && (t386.toList == ([] : List UInt8))))) = false := by simpa using c142))
                                    (try (have c142b2 : (t383 == 0 && (t384 == 0 && (t385 == 0 && (t386.toList == ([] : List UInt8))))) = false := by simpa using c142))
                                    (try (have c142b3 : ¬ (t383 = 0 && (t384 == 0 && (t385 == 0 && (t386.toList == ([] : List UInt8))))) := by simpa using c142))
                                    clear c142
                                    exact absurd ((Option.some.inj H).trans hr_) (by decide)
                                · rw [if_neg c141] at H
                                  have c141b0 : (t387 == 7) = false := beq_eq_false_iff_ne.mpr c141
                                  have c141b1 : (t387 != 7) = true := bne_iff_ne.mpr c141
                                  exact absurd ((Option.some.inj H).trans hr_) (by decide)
                              · rw [if_neg c140] at H
                                have c140b0 : (t363 == 0) = false := beq_eq_false_iff_ne.mpr c140
                                have c140b1 : (t363 != 0) = true := bne_iff_ne.mpr c140
                                exact absurd ((Option.some.inj H).trans hr_) (by decide)
                            · rw [if_neg c139] at H
                              have c139b0 : (t359 == (wrap64 (a0)) && (t360 == (wrap64 (a1)) && (t361 == a2 && (t362.toList == (a3.extract 0 ((ji8) : Int).toNat).toList)))) = false := by simpa using c139
                              (try (have c139b1 : decide (t359 = (wrap64 (a0)) && (t360 == (wrap64 (a1)) && (t361 == a2 && (t362.toList == (a3.extract 0 ((ji8) : Int).toNat).toList)))) = false := by simpa using c139))
                              (try (have c139b2 : (t359 == (wrap64 (a0)) && (t360 == (wrap64 (a1)) && (t361 == a2 && (t362.toList == (a3.extract 0 ((ji8) : Int).toNat).toList)))) = false := by simpa using c139))
                              (try (have c139b3 : ¬ (t359 = (wrap64 (a0)) && (t360 == (wrap64 (a1)) && (t361 == a2 && (t362.toList == (a3.extract 0 ((ji8) : Int).toNat).toList)))) := by simpa using c139))
                              clear c139
                              exact absurd ((Option.some.inj H).trans hr_) (by decide)
                        · rw [if_neg c133] at H
                          exact absurd H (by simp)
                      · rw [if_neg c131] at H
                        exact absurd H (by simp)
                    · rw [if_neg c130] at H
                      exact absurd H (by simp)
                · rw [if_neg c127] at H
                  exact absurd H (by simp)
      · rw [if_neg c10] at H
        exact absurd H (by simp)
    · rw [if_neg c9] at H
      exact absurd H (by simp)
  · replace c7 := Bool.eq_false_iff.mpr c7
    subst c7
    have H1 : (some false) = some r := by rw [if_neg (show ¬ (false = true) by decide)] at H; exact H
    clear H
    have H := H1
    clear H1
    exact absurd ((Option.some.inj H).trans hr_) (by decide)

theorem weighbridgelaw07_IcmpBack.calls (k : Nat) (a0 : Int) (a1 : Int) (a2 : Int) (a3 : ByteArray) (a4 : Int) (r : Bool) (w : World) (h : weighbridgelaw07_IcmpBack.f k a0 a1 a2 a3 a4 = some r) (hr_ : r = true) :
    Calls Try.prog 11 #[.int .u8 a0, .int .u8 a1, .int .u32 a2, .string a3, .int .i64 a4] w fun e w' => e = .returned (.bool r) ∧ Below w.heap.size w w' := by
  by_cases hc_ : a4 < 0
  · exact weighbridgelaw07_IcmpBack.callsT k a0 a1 a2 a3 a4 r w h hr_ hc_
  · exact weighbridgelaw07_IcmpBack.callsF k a0 a1 a2 a3 a4 r w h hr_ hc_
/-- THE ONE PURE STATEMENT of weighbridgelaw07_IcmpBack: yours. -/
def weighbridgelaw07_IcmpBack.Pure : Prop := ∀ (a0 : Int) (a1 : Int) (a2 : Int) (a3 : ByteArray) (a4 : Int), (Lit.int .u8 a0).wf = true → (Lit.int .u8 a1).wf = true → (Lit.int .u32 a2).wf = true → a3.size ≤ 140737488351232 → (Lit.int .i64 a4).wf = true → ∃ k, weighbridgelaw07_IcmpBack.f k a0 a1 a2 a3 a4 = some true
theorem weighbridgelaw07_IcmpBack.walk (P : weighbridgelaw07_IcmpBack.Pure) (a0 : Int) (a1 : Int) (a2 : Int) (a3 : ByteArray) (a4 : Int) (w : World) (w0 : (Lit.int .u8 a0).wf = true) (w1 : (Lit.int .u8 a1).wf = true) (w2 : (Lit.int .u32 a2).wf = true) (w3 : a3.size ≤ 140737488351232) (w4 : (Lit.int .i64 a4).wf = true) :
    Calls Try.prog 11 #[.int .u8 a0, .int .u8 a1, .int .u32 a2, .string a3, .int .i64 a4] w fun e w' => e = .returned (.bool true) ∧ Below w.heap.size w w' := by
  obtain ⟨k, h⟩ := P a0 a1 a2 a3 a4 w0 w1 w2 w3 w4
  refine (weighbridgelaw07_IcmpBack.calls k a0 a1 a2 a3 a4 true w h rfl).mono ?_
  rintro e w' ⟨rfl, hd⟩
  exact ⟨rfl, hd⟩
def weighbridgelaw07_IcmpBack.PureU : Prop := ∀ (a0 : Int) (a1 : Int) (a2 : Int) (a3 : ByteArray) (a4 : Int), (Lit.int .u8 a0).wf = true → (Lit.int .u8 a1).wf = true → (Lit.int .u32 a2).wf = true → a3.size ≤ 1048576 → (Lit.int .i64 a4).wf = true → ∃ k, weighbridgelaw07_IcmpBack.f k a0 a1 a2 a3 a4 = some true
theorem weighbridgelaw07_IcmpBack.walkU (P : weighbridgelaw07_IcmpBack.PureU) (a0 : Int) (a1 : Int) (a2 : Int) (a3 : ByteArray) (a4 : Int) (w : World) (w0 : (Lit.int .u8 a0).wf = true) (w1 : (Lit.int .u8 a1).wf = true) (w2 : (Lit.int .u32 a2).wf = true) (w3 : a3.size ≤ 1048576) (w4 : (Lit.int .i64 a4).wf = true) :
    Calls Try.prog 11 #[.int .u8 a0, .int .u8 a1, .int .u32 a2, .string a3, .int .i64 a4] w fun e w' => e = .returned (.bool true) ∧ Below w.heap.size w w' := by
  obtain ⟨k, h⟩ := P a0 a1 a2 a3 a4 w0 w1 w2 w3 w4
  refine (weighbridgelaw07_IcmpBack.calls k a0 a1 a2 a3 a4 true w h rfl).mono ?_
  rintro e w' ⟨rfl, hd⟩
  exact ⟨rfl, hd⟩

end Go.Proofs.Ythmpmladneiegaa.Pr
