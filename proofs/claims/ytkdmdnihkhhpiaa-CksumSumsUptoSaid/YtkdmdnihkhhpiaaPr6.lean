-- Written by a program of the session (wip/tools) out of the translation, over the kit's print; with pieces of the session's own.
import Derived.Test.YtkdmdnihkhhpiaaPr0
import Derived.Test.YtkdmdnihkhhpiaaPr1
import Derived.Test.YtkdmdnihkhhpiaaPr3
import Derived.Test.YtkdmdnihkhhpiaaPr4
namespace Go.Proofs.Ytkdmdnihkhhpiaa.Pr
open Go.RowKit Go.Proofs.YtkdmdnihkhhpiaaW.PrintWords Go.Proofs.YtkdmdnihkhhpiaaW.PrintLast Go.Proofs.YtkdmdnihkhhpiaaW.PrintMore
attribute [local go_sem] max2_int min2_int max_two min_two max_three min_three max_four min_four   -- for this text's walks alone
set_option linter.unusedVariables false
set_option linter.unusedSimpArgs false
open Go.Proofs.Ytkdmdnihkhhpiaa.Sp
/-! ### weighbridgelaw03_CksumSums: function 3 -/
def weighbridgelaw03_CksumSums.f (a0 : ByteArray) (a1 : Int) (l2 : List Int) : Option (Bool) := (weighbridgelaw03_examples.f).bind fun t125 => (if t125 = true then ((cksum_Fold.f a1).bind fun t126 => ((weighbridgeref03_Fold.f a1).bind fun t127 => (if t126 = t127 then ((cksum_Sum.f a0).bind fun t128 => ((weighbridgeref03_Sum.f a0).bind fun t129 => (if t128 = t129 then ((cksum_Check.f a0).bind fun t130 => ((weighbridgeref03_Check.f a0).bind fun t131 => (if t130 = t131 then ((cksum_Join.f l2).bind fun t132 => ((weighbridgeref03_Join.f l2).bind fun t133 => (some (t132 == t133)))) else (some false)))) else (some false)))) else (some false)))) else (some false))
set_option maxHeartbeats 8000000 in
set_option maxRecDepth 100000 in
theorem weighbridgelaw03_CksumSums.calls (a0 : ByteArray) (a1 : Int) (A2 : Option Addr) (c2 : Nat) (l2 : List Int) (r : Bool) (w : World) (hr2 : Kd.C (Kd.int .u16) w A2 l2.length l2) (hc2 : l2.length ≤ c2) (h : weighbridgelaw03_CksumSums.f a0 a1 l2 = some r) :
    Calls Try.prog 3 #[.string a0, .int .u64 a1, .slice A2 l2.length c2] w fun e w' => e = .returned (.bool r) ∧ Below w.heap.size w w' := by
  have HR2 := Aside0.mk hr2
  have HC2 := Aside0.mk hc2
  clear hr2 hc2
  have HB := Aside0.mk (Below.refl w.heap.size w)
  have H : ((weighbridgelaw03_examples.f).bind fun t125 => (if t125 = true then ((cksum_Fold.f a1).bind fun t126 => ((weighbridgeref03_Fold.f a1).bind fun t127 => (if t126 = t127 then ((cksum_Sum.f a0).bind fun t128 => ((weighbridgeref03_Sum.f a0).bind fun t129 => (if t128 = t129 then ((cksum_Check.f a0).bind fun t130 => ((weighbridgeref03_Check.f a0).bind fun t131 => (if t130 = t131 then ((cksum_Join.f l2).bind fun t132 => ((weighbridgeref03_Join.f l2).bind fun t133 => (some (t132 == t133)))) else (some false)))) else (some false)))) else (some false)))) else (some false))) = some r := h
  clear h
  replace H := Option.bind_eq_some_iff.mp H
  obtain ⟨t125, A40, H⟩ := H
  replace H : (if t125 = true then ((cksum_Fold.f a1).bind fun t126 => ((weighbridgeref03_Fold.f a1).bind fun t127 => (if t126 = t127 then ((cksum_Sum.f a0).bind fun t128 => ((weighbridgeref03_Sum.f a0).bind fun t129 => (if t128 = t129 then ((cksum_Check.f a0).bind fun t130 => ((weighbridgeref03_Check.f a0).bind fun t131 => (if t130 = t131 then ((cksum_Join.f l2).bind fun t132 => ((weighbridgeref03_Join.f l2).bind fun t133 => (some (t132 == t133)))) else (some false)))) else (some false)))) else (some false)))) else (some false)) = some r := H
  have A4 := Aside0.mk A40
  clear A40
  by_cases c5 : t125 = true
  · subst c5
    have H1 : ((cksum_Fold.f a1).bind fun t126 => ((weighbridgeref03_Fold.f a1).bind fun t127 => (if t126 = t127 then ((cksum_Sum.f a0).bind fun t128 => ((weighbridgeref03_Sum.f a0).bind fun t129 => (if t128 = t129 then ((cksum_Check.f a0).bind fun t130 => ((weighbridgeref03_Check.f a0).bind fun t131 => (if t130 = t131 then ((cksum_Join.f l2).bind fun t132 => ((weighbridgeref03_Join.f l2).bind fun t133 => (some (t132 == t133)))) else (some false)))) else (some false)))) else (some false)))) = some r := by rw [if_pos rfl] at H; exact H
    clear H
    have H := H1
    clear H1
    replace H := Option.bind_eq_some_iff.mp H
    obtain ⟨t126, A60, H⟩ := H
    replace H : ((weighbridgeref03_Fold.f a1).bind fun t127 => (if t126 = t127 then ((cksum_Sum.f a0).bind fun t128 => ((weighbridgeref03_Sum.f a0).bind fun t129 => (if t128 = t129 then ((cksum_Check.f a0).bind fun t130 => ((weighbridgeref03_Check.f a0).bind fun t131 => (if t130 = t131 then ((cksum_Join.f l2).bind fun t132 => ((weighbridgeref03_Join.f l2).bind fun t133 => (some (t132 == t133)))) else (some false)))) else (some false)))) else (some false))) = some r := H
    have A6 := Aside0.mk A60
    clear A60
    replace H := Option.bind_eq_some_iff.mp H
    obtain ⟨t127, A70, H⟩ := H
    replace H : (if t126 = t127 then ((cksum_Sum.f a0).bind fun t128 => ((weighbridgeref03_Sum.f a0).bind fun t129 => (if t128 = t129 then ((cksum_Check.f a0).bind fun t130 => ((weighbridgeref03_Check.f a0).bind fun t131 => (if t130 = t131 then ((cksum_Join.f l2).bind fun t132 => ((weighbridgeref03_Join.f l2).bind fun t133 => (some (t132 == t133)))) else (some false)))) else (some false)))) else (some false)) = some r := H
    have A7 := Aside0.mk A70
    clear A70
    by_cases c8 : t126 = t127
    · rw [if_pos c8] at H
      have c8b0 : (t126 == t127) = true := beq_iff_eq.mpr c8
      have c8b1 : (t126 != t127) = false := bne_eq_false_iff_eq.mpr c8
      clear c8
      replace H := Option.bind_eq_some_iff.mp H
      obtain ⟨t128, A90, H⟩ := H
      replace H : ((weighbridgeref03_Sum.f a0).bind fun t129 => (if t128 = t129 then ((cksum_Check.f a0).bind fun t130 => ((weighbridgeref03_Check.f a0).bind fun t131 => (if t130 = t131 then ((cksum_Join.f l2).bind fun t132 => ((weighbridgeref03_Join.f l2).bind fun t133 => (some (t132 == t133)))) else (some false)))) else (some false))) = some r := H
      have A9 := Aside0.mk A90
      clear A90
      replace H := Option.bind_eq_some_iff.mp H
      obtain ⟨t129, A100, H⟩ := H
      replace H : (if t128 = t129 then ((cksum_Check.f a0).bind fun t130 => ((weighbridgeref03_Check.f a0).bind fun t131 => (if t130 = t131 then ((cksum_Join.f l2).bind fun t132 => ((weighbridgeref03_Join.f l2).bind fun t133 => (some (t132 == t133)))) else (some false)))) else (some false)) = some r := H
      have A10 := Aside0.mk A100
      clear A100
      by_cases c11 : t128 = t129
      · rw [if_pos c11] at H
        have c11b0 : (t128 == t129) = true := beq_iff_eq.mpr c11
        have c11b1 : (t128 != t129) = false := bne_eq_false_iff_eq.mpr c11
        clear c11
        replace H := Option.bind_eq_some_iff.mp H
        obtain ⟨t130, A120, H⟩ := H
        replace H : ((weighbridgeref03_Check.f a0).bind fun t131 => (if t130 = t131 then ((cksum_Join.f l2).bind fun t132 => ((weighbridgeref03_Join.f l2).bind fun t133 => (some (t132 == t133)))) else (some false))) = some r := H
        have A12 := Aside0.mk A120
        clear A120
        replace H := Option.bind_eq_some_iff.mp H
        obtain ⟨t131, A130, H⟩ := H
        replace H : (if t130 = t131 then ((cksum_Join.f l2).bind fun t132 => ((weighbridgeref03_Join.f l2).bind fun t133 => (some (t132 == t133)))) else (some false)) = some r := H
        have A13 := Aside0.mk A130
        clear A130
        by_cases c14 : t130 = t131
        · rw [if_pos c14] at H
          have c14b0 : (t130 == t131) = true := beq_iff_eq.mpr c14
          have c14b1 : (t130 != t131) = false := bne_eq_false_iff_eq.mpr c14
          clear c14
          replace H := Option.bind_eq_some_iff.mp H
          obtain ⟨t132, A150, H⟩ := H
          replace H : ((weighbridgeref03_Join.f l2).bind fun t133 => (some (t132 == t133))) = some r := H
          have A15 := Aside0.mk A150
          clear A150
          replace H := Option.bind_eq_some_iff.mp H
          obtain ⟨t133, A160, H⟩ := H
          replace H : (some (t132 == t133)) = some r := H
          have A16 := Aside0.mk A160
          clear A160
          obtain rfl := Option.some.inj H
          go_enter Try.func3, Try.ntmps3
          go_wp2_with (first | ((with_reducible refine gate_callee (f := 14) rfl ?_); refine goesL_ (some 8) rfl rfl Try.func14 (by kernel_rfl) rfl #[] rfl (by (try simp only [List.map_toArray, List.map_cons, List.map_nil]); first | done | rfl | (simp only [List.length_drop, List.length_take]; rfl)) ?_; (with_reducible refine (weighbridgelaw03_examples.calls  true _ A4.out).mono ?_); rintro e w17 ⟨rfl, hb⟩; (try clear A4); refine ⟨_, rfl, ?_⟩; have n0_ := Aside0.mk (below_step (by repeat (first | (with_reducible first | exact HB.out | apply below_alloc | apply pw_below_drewN | apply below_drew1) | exact HB.out)) hb); clear HB; have HB := n0_; clear n0_; (try clear hb); (try clear hb2); (try clear hk); (try clear hi)) | (go_at_call 15; (with_reducible refine (cksum_Fold.calls a1 t126 _ A6.out).mono ?_); rintro e w' ⟨rfl, ⟨nd, rfl⟩⟩) | (go_at_call 16; (with_reducible refine (weighbridgeref03_Fold.calls a1 t127 _ A7.out).mono ?_); rintro e w' ⟨rfl, ⟨nd, rfl⟩⟩) | (go_at_call 17; (with_reducible refine (cksum_Sum.calls a0 t128 _ A9.out).mono ?_); rintro e w18 ⟨rfl, hb⟩; (try clear A9); have n0_ := Aside0.mk (below_step (by repeat (first | (with_reducible first | exact HB.out | apply below_alloc | apply pw_below_drewN | apply below_drew1) | exact HB.out)) hb); clear HB; have HB := n0_; clear n0_; (try clear hb); (try clear hb2); (try clear hk); (try clear hi)) | (go_at_call 18; (with_reducible refine (weighbridgeref03_Sum.calls a0 t129 _ A10.out).mono ?_); rintro e w19 ⟨rfl, hb⟩; (try clear A10); have n0_ := Aside0.mk (below_step (by repeat (first | (with_reducible first | exact HB.out | apply below_alloc | apply pw_below_drewN | apply below_drew1) | exact HB.out)) hb); clear HB; have HB := n0_; clear n0_; (try clear hb); (try clear hb2); (try clear hk); (try clear hi)) | (go_at_call 19; (with_reducible refine (cksum_Check.calls a0 t130 _ A12.out).mono ?_); rintro e w20 ⟨rfl, hb⟩; (try clear A12); have n0_ := Aside0.mk (below_step (by repeat (first | (with_reducible first | exact HB.out | apply below_alloc | apply pw_below_drewN | apply below_drew1) | exact HB.out)) hb); clear HB; have HB := n0_; clear n0_; (try clear hb); (try clear hb2); (try clear hk); (try clear hi)) | (go_at_call 20; (with_reducible refine (weighbridgeref03_Check.calls a0 t131 _ A13.out).mono ?_); rintro e w21 ⟨rfl, hb⟩; (try clear A13); have n0_ := Aside0.mk (below_step (by repeat (first | (with_reducible first | exact HB.out | apply below_alloc | apply pw_below_drewN | apply below_drew1) | exact HB.out)) hb); clear HB; have HB := n0_; clear n0_; (try clear hb); (try clear hb2); (try clear hk); (try clear hi)) | (go_at_call 21; (with_reducible refine (cksum_Join.calls _ _ l2 t132 _ ?side1 ?side2 A15.out).mono ?_); (case side1 => repeat (first | exact (Kd.C_below HR2.out HB.out) | (with_reducible refine Kd.C_alloc ?_ _) | (with_reducible refine Kd.C_drewN ?_ _) | (with_reducible refine Kd.C_drew ?_))); (case side2 => exact HC2.out); rintro e w' ⟨rfl, ⟨nd, rfl⟩⟩) | (go_at_call 22; (with_reducible refine (weighbridgeref03_Join.calls _ _ l2 t133 _ ?side1 ?side2 A16.out).mono ?_); (case side1 => repeat (first | exact (Kd.C_below HR2.out (by repeat (first | (with_reducible first | exact HB.out | apply below_alloc | apply pw_below_drewN | apply below_drew1) | exact HB.out))) | (with_reducible refine Kd.C_alloc ?_ _) | (with_reducible refine Kd.C_drewN ?_ _) | (with_reducible refine Kd.C_drew ?_))); (case side2 => exact HC2.out); rintro e w' ⟨rfl, ⟨nd, rfl⟩⟩))
          go_ret
          exact ⟨by first | rfl | (simp [errW_none, errW_some] <;> rfl) | (simp [*, errW_none, errW_some] <;> rfl), by repeat (first | (with_reducible first | exact HB.out | apply below_alloc | apply pw_below_drewN | apply below_drew1) | exact HB.out)⟩
        · rw [if_neg c14] at H
          have c14b0 : (t130 == t131) = false := beq_eq_false_iff_ne.mpr c14
          have c14b1 : (t130 != t131) = true := bne_iff_ne.mpr c14
          obtain rfl := Option.some.inj H
          go_enter Try.func3, Try.ntmps3
          go_wp2_with (first | ((with_reducible refine gate_callee (f := 14) rfl ?_); refine goesL_ (some 8) rfl rfl Try.func14 (by kernel_rfl) rfl #[] rfl (by (try simp only [List.map_toArray, List.map_cons, List.map_nil]); first | done | rfl | (simp only [List.length_drop, List.length_take]; rfl)) ?_; (with_reducible refine (weighbridgelaw03_examples.calls  true _ A4.out).mono ?_); rintro e w22 ⟨rfl, hb⟩; (try clear A4); refine ⟨_, rfl, ?_⟩; have n0_ := Aside0.mk (below_step (by repeat (first | (with_reducible first | exact HB.out | apply below_alloc | apply pw_below_drewN | apply below_drew1) | exact HB.out)) hb); clear HB; have HB := n0_; clear n0_; (try clear hb); (try clear hb2); (try clear hk); (try clear hi)) | (go_at_call 15; (with_reducible refine (cksum_Fold.calls a1 t126 _ A6.out).mono ?_); rintro e w' ⟨rfl, ⟨nd, rfl⟩⟩) | (go_at_call 16; (with_reducible refine (weighbridgeref03_Fold.calls a1 t127 _ A7.out).mono ?_); rintro e w' ⟨rfl, ⟨nd, rfl⟩⟩) | (go_at_call 17; (with_reducible refine (cksum_Sum.calls a0 t128 _ A9.out).mono ?_); rintro e w23 ⟨rfl, hb⟩; (try clear A9); have n0_ := Aside0.mk (below_step (by repeat (first | (with_reducible first | exact HB.out | apply below_alloc | apply pw_below_drewN | apply below_drew1) | exact HB.out)) hb); clear HB; have HB := n0_; clear n0_; (try clear hb); (try clear hb2); (try clear hk); (try clear hi)) | (go_at_call 18; (with_reducible refine (weighbridgeref03_Sum.calls a0 t129 _ A10.out).mono ?_); rintro e w24 ⟨rfl, hb⟩; (try clear A10); have n0_ := Aside0.mk (below_step (by repeat (first | (with_reducible first | exact HB.out | apply below_alloc | apply pw_below_drewN | apply below_drew1) | exact HB.out)) hb); clear HB; have HB := n0_; clear n0_; (try clear hb); (try clear hb2); (try clear hk); (try clear hi)) | (go_at_call 19; (with_reducible refine (cksum_Check.calls a0 t130 _ A12.out).mono ?_); rintro e w25 ⟨rfl, hb⟩; (try clear A12); have n0_ := Aside0.mk (below_step (by repeat (first | (with_reducible first | exact HB.out | apply below_alloc | apply pw_below_drewN | apply below_drew1) | exact HB.out)) hb); clear HB; have HB := n0_; clear n0_; (try clear hb); (try clear hb2); (try clear hk); (try clear hi)) | (go_at_call 20; (with_reducible refine (weighbridgeref03_Check.calls a0 t131 _ A13.out).mono ?_); rintro e w26 ⟨rfl, hb⟩; (try clear A13); have n0_ := Aside0.mk (below_step (by repeat (first | (with_reducible first | exact HB.out | apply below_alloc | apply pw_below_drewN | apply below_drew1) | exact HB.out)) hb); clear HB; have HB := n0_; clear n0_; (try clear hb); (try clear hb2); (try clear hk); (try clear hi)))
          go_ret
          exact ⟨by first | rfl | (simp [errW_none, errW_some] <;> rfl) | (simp [*, errW_none, errW_some] <;> rfl), by repeat (first | (with_reducible first | exact HB.out | apply below_alloc | apply pw_below_drewN | apply below_drew1) | exact HB.out)⟩
      · rw [if_neg c11] at H
        have c11b0 : (t128 == t129) = false := beq_eq_false_iff_ne.mpr c11
        have c11b1 : (t128 != t129) = true := bne_iff_ne.mpr c11
        obtain rfl := Option.some.inj H
        go_enter Try.func3, Try.ntmps3
        go_wp2_with (first | ((with_reducible refine gate_callee (f := 14) rfl ?_); refine goesL_ (some 8) rfl rfl Try.func14 (by kernel_rfl) rfl #[] rfl (by (try simp only [List.map_toArray, List.map_cons, List.map_nil]); first | done | rfl | (simp only [List.length_drop, List.length_take]; rfl)) ?_; (with_reducible refine (weighbridgelaw03_examples.calls  true _ A4.out).mono ?_); rintro e w27 ⟨rfl, hb⟩; (try clear A4); refine ⟨_, rfl, ?_⟩; have n0_ := Aside0.mk (below_step (by repeat (first | (with_reducible first | exact HB.out | apply below_alloc | apply pw_below_drewN | apply below_drew1) | exact HB.out)) hb); clear HB; have HB := n0_; clear n0_; (try clear hb); (try clear hb2); (try clear hk); (try clear hi)) | (go_at_call 15; (with_reducible refine (cksum_Fold.calls a1 t126 _ A6.out).mono ?_); rintro e w' ⟨rfl, ⟨nd, rfl⟩⟩) | (go_at_call 16; (with_reducible refine (weighbridgeref03_Fold.calls a1 t127 _ A7.out).mono ?_); rintro e w' ⟨rfl, ⟨nd, rfl⟩⟩) | (go_at_call 17; (with_reducible refine (cksum_Sum.calls a0 t128 _ A9.out).mono ?_); rintro e w28 ⟨rfl, hb⟩; (try clear A9); have n0_ := Aside0.mk (below_step (by repeat (first | (with_reducible first | exact HB.out | apply below_alloc | apply pw_below_drewN | apply below_drew1) | exact HB.out)) hb); clear HB; have HB := n0_; clear n0_; (try clear hb); (try clear hb2); (try clear hk); (try clear hi)) | (go_at_call 18; (with_reducible refine (weighbridgeref03_Sum.calls a0 t129 _ A10.out).mono ?_); rintro e w29 ⟨rfl, hb⟩; (try clear A10); have n0_ := Aside0.mk (below_step (by repeat (first | (with_reducible first | exact HB.out | apply below_alloc | apply pw_below_drewN | apply below_drew1) | exact HB.out)) hb); clear HB; have HB := n0_; clear n0_; (try clear hb); (try clear hb2); (try clear hk); (try clear hi)))
        go_ret
        exact ⟨by first | rfl | (simp [errW_none, errW_some] <;> rfl) | (simp [*, errW_none, errW_some] <;> rfl), by repeat (first | (with_reducible first | exact HB.out | apply below_alloc | apply pw_below_drewN | apply below_drew1) | exact HB.out)⟩
    · rw [if_neg c8] at H
      have c8b0 : (t126 == t127) = false := beq_eq_false_iff_ne.mpr c8
      have c8b1 : (t126 != t127) = true := bne_iff_ne.mpr c8
      obtain rfl := Option.some.inj H
      go_enter Try.func3, Try.ntmps3
      go_wp2_with (first | ((with_reducible refine gate_callee (f := 14) rfl ?_); refine goesL_ (some 8) rfl rfl Try.func14 (by kernel_rfl) rfl #[] rfl (by (try simp only [List.map_toArray, List.map_cons, List.map_nil]); first | done | rfl | (simp only [List.length_drop, List.length_take]; rfl)) ?_; (with_reducible refine (weighbridgelaw03_examples.calls  true _ A4.out).mono ?_); rintro e w30 ⟨rfl, hb⟩; (try clear A4); refine ⟨_, rfl, ?_⟩; have n0_ := Aside0.mk (below_step (by repeat (first | (with_reducible first | exact HB.out | apply below_alloc | apply pw_below_drewN | apply below_drew1) | exact HB.out)) hb); clear HB; have HB := n0_; clear n0_; (try clear hb); (try clear hb2); (try clear hk); (try clear hi)) | (go_at_call 15; (with_reducible refine (cksum_Fold.calls a1 t126 _ A6.out).mono ?_); rintro e w' ⟨rfl, ⟨nd, rfl⟩⟩) | (go_at_call 16; (with_reducible refine (weighbridgeref03_Fold.calls a1 t127 _ A7.out).mono ?_); rintro e w' ⟨rfl, ⟨nd, rfl⟩⟩))
      go_ret
      exact ⟨by first | rfl | (simp [errW_none, errW_some] <;> rfl) | (simp [*, errW_none, errW_some] <;> rfl), by repeat (first | (with_reducible first | exact HB.out | apply below_alloc | apply pw_below_drewN | apply below_drew1) | exact HB.out)⟩
  · replace c5 := Bool.eq_false_iff.mpr c5
    subst c5
    have H1 : (some false) = some r := by rw [if_neg (show ¬ (false = true) by decide)] at H; exact H
    clear H
    have H := H1
    clear H1
    obtain rfl := Option.some.inj H
    go_enter Try.func3, Try.ntmps3
    go_wp2_with (first | ((with_reducible refine gate_callee (f := 14) rfl ?_); refine goesL_ (some 8) rfl rfl Try.func14 (by kernel_rfl) rfl #[] rfl (by (try simp only [List.map_toArray, List.map_cons, List.map_nil]); first | done | rfl | (simp only [List.length_drop, List.length_take]; rfl)) ?_; (with_reducible refine (weighbridgelaw03_examples.calls  false _ A4.out).mono ?_); rintro e w31 ⟨rfl, hb⟩; (try clear A4); refine ⟨_, rfl, ?_⟩; have n0_ := Aside0.mk (below_step (by repeat (first | (with_reducible first | exact HB.out | apply below_alloc | apply pw_below_drewN | apply below_drew1) | exact HB.out)) hb); clear HB; have HB := n0_; clear n0_; (try clear hb); (try clear hb2); (try clear hk); (try clear hi)))
    go_ret
    exact ⟨by first | rfl | (simp [errW_none, errW_some] <;> rfl) | (simp [*, errW_none, errW_some] <;> rfl), by repeat (first | (with_reducible first | exact HB.out | apply below_alloc | apply pw_below_drewN | apply below_drew1) | exact HB.out)⟩

/-- THE ONE PURE STATEMENT of weighbridgelaw03_CksumSums: yours. -/
def weighbridgelaw03_CksumSums.Pure : Prop := ∀ (a0 : ByteArray) (a1 : Int) (l2 : List Int), a0.size ≤ 140737488351232 → (Lit.int .u64 a1).wf = true → l2.length ≤ maxLen → l2.length * 2 ≤ 140737488351232 → (∀ x ∈ l2, (Lit.int .u16 x).wf = true) → weighbridgelaw03_CksumSums.f a0 a1 l2 = some true
theorem weighbridgelaw03_CksumSums.walk (P : weighbridgelaw03_CksumSums.Pure) (a0 : ByteArray) (a1 : Int) (a2 : Option Addr) (len2 cap2 : Nat) (z2 : List Int) (w : World) (w0 : a0.size ≤ 140737488351232) (w1 : (Lit.int .u64 a1).wf = true) (w2 : (a2 = none ∧ len2 = 0 ∧ cap2 = 0 ∧ z2 = []) ∨ ∃ x, a2 = some x ∧ len2 ≤ cap2 ∧ cap2 ≤ maxLen ∧ z2.length = cap2 ∧ (∀ i, i < z2.length → w.cell? (x.add i) = some (.int .u16 (z2.getD i 0))) ∧ ∀ n ∈ z2, (Lit.int .u16 n).wf = true) (y2 : len2 * 2 ≤ 140737488351232) :
    Calls Try.prog 3 #[.string a0, .int .u64 a1, .slice a2 len2 cap2] w fun e w' => e = .returned (.bool true) ∧ Below w.heap.size w w' := by
  obtain ⟨l2, rfl, hr2, hm2, hw2, hc2⟩ := ReadsInt.ofRowC w2
  have h := P a0 a1 l2 w0 w1 hm2 y2 hw2
  refine (weighbridgelaw03_CksumSums.calls a0 a1 _ _ l2 true w (Kd.C_of_reads (d := (0 : Int)) (h1 := fun _ => rfl) hr2) hc2 h).mono ?_
  rintro e w' ⟨rfl, hd⟩
  exact ⟨rfl, hd⟩
def weighbridgelaw03_CksumSums.PureU : Prop := ∀ (a0 : ByteArray) (a1 : Int) (l2 : List Int), a0.size ≤ 1048576 → (Lit.int .u64 a1).wf = true → l2.length ≤ maxLen → l2.length * 2 ≤ 140737488351232 → (∀ x ∈ l2, (Lit.int .u16 x).wf = true) → weighbridgelaw03_CksumSums.f a0 a1 l2 = some true
theorem weighbridgelaw03_CksumSums.walkU (P : weighbridgelaw03_CksumSums.PureU) (a0 : ByteArray) (a1 : Int) (a2 : Option Addr) (len2 cap2 : Nat) (z2 : List Int) (w : World) (w0 : a0.size ≤ 1048576) (w1 : (Lit.int .u64 a1).wf = true) (w2 : (a2 = none ∧ len2 = 0 ∧ cap2 = 0 ∧ z2 = []) ∨ ∃ x, a2 = some x ∧ len2 ≤ cap2 ∧ cap2 ≤ maxLen ∧ z2.length = cap2 ∧ (∀ i, i < z2.length → w.cell? (x.add i) = some (.int .u16 (z2.getD i 0))) ∧ ∀ n ∈ z2, (Lit.int .u16 n).wf = true) (y2 : len2 * 2 ≤ 140737488351232) :
    Calls Try.prog 3 #[.string a0, .int .u64 a1, .slice a2 len2 cap2] w fun e w' => e = .returned (.bool true) ∧ Below w.heap.size w w' := by
  obtain ⟨l2, rfl, hr2, hm2, hw2, hc2⟩ := ReadsInt.ofRowC w2
  have h := P a0 a1 l2 w0 w1 hm2 y2 hw2
  refine (weighbridgelaw03_CksumSums.calls a0 a1 _ _ l2 true w (Kd.C_of_reads (d := (0 : Int)) (h1 := fun _ => rfl) hr2) hc2 h).mono ?_
  rintro e w' ⟨rfl, hd⟩
  exact ⟨rfl, hd⟩

end Go.Proofs.Ytkdmdnihkhhpiaa.Pr
