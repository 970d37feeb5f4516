-- Written by a program of the session (wip/tools) out of the translation, over the kit's print; with pieces of the session's own.
import Derived.Test.YtkdmdnihkhhpiaaPr0
import Derived.Test.YtkdmdnihkhhpiaaPr1
import Derived.Test.YtkdmdnihkhhpiaaPr3
namespace Go.Proofs.Ytkdmdnihkhhpiaa.Pr
open Go.RowKit Go.Proofs.YtkdmdnihkhhpiaaW.PrintWords Go.Proofs.YtkdmdnihkhhpiaaW.PrintLast Go.Proofs.YtkdmdnihkhhpiaaW.PrintMore
attribute [local go_sem] max2_int min2_int max_two min_two max_three min_three max_four min_four   -- for this text's walks alone
set_option linter.unusedVariables false
set_option linter.unusedSimpArgs false
open Go.Proofs.Ytkdmdnihkhhpiaa.Sp
/-! ### weighbridgelaw03_CksumFolds: function 6 -/
def weighbridgelaw03_CksumFolds.f (a0 : Int) : Option (Bool) := (weighbridgelaw03_examples.f).bind fun t158 => (if t158 = true then ((cksum_Fold.f a0).bind fun t159 => (if (Int.tmod (IntKind.u64.wrap (t159)) 65535) = (Int.tmod a0 65535) then (if (((IntKind.u64.wrap (t159)) == 0) == (a0 == 0)) = true then ((cksum_Fold.f (IntKind.u64.wrap (t159))).bind fun t160 => (some ((IntKind.u64.wrap (t160)) == (IntKind.u64.wrap (t159))))) else (some false)) else (some false))) else (some false))
set_option maxHeartbeats 8000000 in
set_option maxRecDepth 100000 in
theorem weighbridgelaw03_CksumFolds.calls (a0 : Int) (r : Bool) (w : World) (h : weighbridgelaw03_CksumFolds.f a0 = some r) :
    Calls Try.prog 6 #[.int .u64 a0] w fun e w' => e = .returned (.bool r) ∧ Below w.heap.size w w' := by
  have HB := Aside0.mk (Below.refl w.heap.size w)
  have H : ((weighbridgelaw03_examples.f).bind fun t158 => (if t158 = true then ((cksum_Fold.f a0).bind fun t159 => (if (Int.tmod (IntKind.u64.wrap (t159)) 65535) = (Int.tmod a0 65535) then (if (((IntKind.u64.wrap (t159)) == 0) == (a0 == 0)) = true then ((cksum_Fold.f (IntKind.u64.wrap (t159))).bind fun t160 => (some ((IntKind.u64.wrap (t160)) == (IntKind.u64.wrap (t159))))) else (some false)) else (some false))) else (some false))) = some r := h
  clear h
  replace H := Option.bind_eq_some_iff.mp H
  obtain ⟨t158, A20, H⟩ := H
  replace H : (if t158 = true then ((cksum_Fold.f a0).bind fun t159 => (if (Int.tmod (IntKind.u64.wrap (t159)) 65535) = (Int.tmod a0 65535) then (if (((IntKind.u64.wrap (t159)) == 0) == (a0 == 0)) = true then ((cksum_Fold.f (IntKind.u64.wrap (t159))).bind fun t160 => (some ((IntKind.u64.wrap (t160)) == (IntKind.u64.wrap (t159))))) else (some false)) else (some false))) else (some false)) = some r := H
  have A2 := Aside0.mk A20
  clear A20
  by_cases c3 : t158 = true
  · subst c3
    have H1 : ((cksum_Fold.f a0).bind fun t159 => (if (Int.tmod (IntKind.u64.wrap (t159)) 65535) = (Int.tmod a0 65535) then (if (((IntKind.u64.wrap (t159)) == 0) == (a0 == 0)) = true then ((cksum_Fold.f (IntKind.u64.wrap (t159))).bind fun t160 => (some ((IntKind.u64.wrap (t160)) == (IntKind.u64.wrap (t159))))) else (some false)) else (some false))) = some r := by rw [if_pos rfl] at H; exact H
    clear H
    have H := H1
    clear H1
    replace H := Option.bind_eq_some_iff.mp H
    obtain ⟨t159, A40, H⟩ := H
    replace H : (if (Int.tmod (IntKind.u64.wrap (t159)) 65535) = (Int.tmod a0 65535) then (if (((IntKind.u64.wrap (t159)) == 0) == (a0 == 0)) = true then ((cksum_Fold.f (IntKind.u64.wrap (t159))).bind fun t160 => (some ((IntKind.u64.wrap (t160)) == (IntKind.u64.wrap (t159))))) else (some false)) else (some false)) = some r := H
    have A4 := Aside0.mk A40
    clear A40
    by_cases c5 : (Int.tmod (IntKind.u64.wrap (t159)) 65535) = (Int.tmod a0 65535)
    · rw [if_pos c5] at H
      have c5b0 : ((Int.tmod (IntKind.u64.wrap (t159)) 65535) == (Int.tmod a0 65535)) = true := beq_iff_eq.mpr c5
      have c5b1 : ((Int.tmod (IntKind.u64.wrap (t159)) 65535) != (Int.tmod a0 65535)) = false := bne_eq_false_iff_eq.mpr c5
      clear c5
      by_cases c6 : (((IntKind.u64.wrap (t159)) == 0) == (a0 == 0)) = true
      · rw [if_pos c6] at H
        have c6b0 : (((IntKind.u64.wrap (t159)) == 0) == (a0 == 0)) = true := c6
        (try (have c6b1 : decide (((IntKind.u64.wrap (t159)) == 0) = (a0 == 0)) = true := by simpa using c6))
        (try (have c6b2 : (((IntKind.u64.wrap (t159)) == 0) == (a0 == 0)) = true := by simpa using c6))
        clear c6
        replace H := Option.bind_eq_some_iff.mp H
        obtain ⟨t160, A70, H⟩ := H
        replace H : (some ((IntKind.u64.wrap (t160)) == (IntKind.u64.wrap (t159)))) = some r := H
        have A7 := Aside0.mk A70
        clear A70
        obtain rfl := Option.some.inj H
        go_enter Try.func6, Try.ntmps6
        go_wp2_with (first | ((with_reducible refine gate_callee (f := 14) rfl ?_); refine goesL_ (some 5) rfl rfl Try.func14 (by kernel_rfl) rfl #[] rfl (by (try simp only [List.map_toArray, List.map_cons, List.map_nil]); first | done | rfl | (simp only [List.length_drop, List.length_take]; rfl)) ?_; (with_reducible refine (weighbridgelaw03_examples.calls  true _ A2.out).mono ?_); rintro e w8 ⟨rfl, hb⟩; (try clear A2); refine ⟨_, rfl, ?_⟩; have n0_ := Aside0.mk (below_step (by repeat (first | (with_reducible first | exact HB.out | apply below_alloc | apply pw_below_drewN | apply below_drew1) | exact HB.out)) hb); clear HB; have HB := n0_; clear n0_; (try clear hb); (try clear hb2); (try clear hk); (try clear hi)) | ((with_reducible refine gate_callee (f := 15) rfl ?_); refine goesL_ (some 9) rfl rfl Try.func15 (by kernel_rfl) rfl #[.int .u64 a0] rfl (by (try simp only [List.map_toArray, List.map_cons, List.map_nil]); first | done | rfl | (simp only [List.length_drop, List.length_take]; rfl)) ?_; (with_reducible refine (cksum_Fold.calls a0 t159 _ A4.out).mono ?_); rintro e w' ⟨rfl, ⟨nd, rfl⟩⟩; refine ⟨_, rfl, ?_⟩) | (go_at_call 15; (with_reducible refine (cksum_Fold.calls (IntKind.u64.wrap (t159)) t160 _ A7.out).mono ?_); rintro e w' ⟨rfl, ⟨nd, rfl⟩⟩))
        go_ret
        exact ⟨by first | rfl | (simp [errW_none, errW_some] <;> rfl) | (simp [*, errW_none, errW_some] <;> rfl), by repeat (first | (with_reducible first | exact HB.out | apply below_alloc | apply pw_below_drewN | apply below_drew1) | exact HB.out)⟩
      · rw [if_neg c6] at H
        have c6b0 : (((IntKind.u64.wrap (t159)) == 0) == (a0 == 0)) = false := by simpa using c6
        (try (have c6b1 : decide (((IntKind.u64.wrap (t159)) == 0) = (a0 == 0)) = false := by simpa using c6))
        (try (have c6b2 : (((IntKind.u64.wrap (t159)) == 0) == (a0 == 0)) = false := by simpa using c6))
        (try (have c6b3 : ¬ (((IntKind.u64.wrap (t159)) == 0) = (a0 == 0)) := by simpa using c6))
        clear c6
        obtain rfl := Option.some.inj H
        go_enter Try.func6, Try.ntmps6
        go_wp2_with (first | ((with_reducible refine gate_callee (f := 14) rfl ?_); refine goesL_ (some 5) rfl rfl Try.func14 (by kernel_rfl) rfl #[] rfl (by (try simp only [List.map_toArray, List.map_cons, List.map_nil]); first | done | rfl | (simp only [List.length_drop, List.length_take]; rfl)) ?_; (with_reducible refine (weighbridgelaw03_examples.calls  true _ A2.out).mono ?_); rintro e w9 ⟨rfl, hb⟩; (try clear A2); refine ⟨_, rfl, ?_⟩; have n0_ := Aside0.mk (below_step (by repeat (first | (with_reducible first | exact HB.out | apply below_alloc | apply pw_below_drewN | apply below_drew1) | exact HB.out)) hb); clear HB; have HB := n0_; clear n0_; (try clear hb); (try clear hb2); (try clear hk); (try clear hi)) | ((with_reducible refine gate_callee (f := 15) rfl ?_); refine goesL_ (some 9) rfl rfl Try.func15 (by kernel_rfl) rfl #[.int .u64 a0] rfl (by (try simp only [List.map_toArray, List.map_cons, List.map_nil]); first | done | rfl | (simp only [List.length_drop, List.length_take]; rfl)) ?_; (with_reducible refine (cksum_Fold.calls a0 t159 _ A4.out).mono ?_); rintro e w' ⟨rfl, ⟨nd, rfl⟩⟩; refine ⟨_, rfl, ?_⟩))
        go_ret
        exact ⟨by first | rfl | (simp [errW_none, errW_some] <;> rfl) | (simp [*, errW_none, errW_some] <;> rfl), by repeat (first | (with_reducible first | exact HB.out | apply below_alloc | apply pw_below_drewN | apply below_drew1) | exact HB.out)⟩
    · rw [if_neg c5] at H
      have c5b0 : ((Int.tmod (IntKind.u64.wrap (t159)) 65535) == (Int.tmod a0 65535)) = false := beq_eq_false_iff_ne.mpr c5
      have c5b1 : ((Int.tmod (IntKind.u64.wrap (t159)) 65535) != (Int.tmod a0 65535)) = true := bne_iff_ne.mpr c5
      obtain rfl := Option.some.inj H
      go_enter Try.func6, Try.ntmps6
      go_wp2_with (first | ((with_reducible refine gate_callee (f := 14) rfl ?_); refine goesL_ (some 5) rfl rfl Try.func14 (by kernel_rfl) rfl #[] rfl (by (try simp only [List.map_toArray, List.map_cons, List.map_nil]); first | done | rfl | (simp only [List.length_drop, List.length_take]; rfl)) ?_; (with_reducible refine (weighbridgelaw03_examples.calls  true _ A2.out).mono ?_); rintro e w10 ⟨rfl, hb⟩; (try clear A2); refine ⟨_, rfl, ?_⟩; have n0_ := Aside0.mk (below_step (by repeat (first | (with_reducible first | exact HB.out | apply below_alloc | apply pw_below_drewN | apply below_drew1) | exact HB.out)) hb); clear HB; have HB := n0_; clear n0_; (try clear hb); (try clear hb2); (try clear hk); (try clear hi)) | ((with_reducible refine gate_callee (f := 15) rfl ?_); refine goesL_ (some 9) rfl rfl Try.func15 (by kernel_rfl) rfl #[.int .u64 a0] rfl (by (try simp only [List.map_toArray, List.map_cons, List.map_nil]); first | done | rfl | (simp only [List.length_drop, List.length_take]; rfl)) ?_; (with_reducible refine (cksum_Fold.calls a0 t159 _ A4.out).mono ?_); rintro e w' ⟨rfl, ⟨nd, rfl⟩⟩; refine ⟨_, rfl, ?_⟩))
      go_ret
      exact ⟨by first | rfl | (simp [errW_none, errW_some] <;> rfl) | (simp [*, errW_none, errW_some] <;> rfl), by repeat (first | (with_reducible first | exact HB.out | apply below_alloc | apply pw_below_drewN | apply below_drew1) | exact HB.out)⟩
  · replace c3 := Bool.eq_false_iff.mpr c3
    subst c3
    have H1 : (some false) = some r := by rw [if_neg (show ¬ (false = true) by decide)] at H; exact H
    clear H
    have H := H1
    clear H1
    obtain rfl := Option.some.inj H
    go_enter Try.func6, Try.ntmps6
    go_wp2_with (first | ((with_reducible refine gate_callee (f := 14) rfl ?_); refine goesL_ (some 5) rfl rfl Try.func14 (by kernel_rfl) rfl #[] rfl (by (try simp only [List.map_toArray, List.map_cons, List.map_nil]); first | done | rfl | (simp only [List.length_drop, List.length_take]; rfl)) ?_; (with_reducible refine (weighbridgelaw03_examples.calls  false _ A2.out).mono ?_); rintro e w11 ⟨rfl, hb⟩; (try clear A2); refine ⟨_, rfl, ?_⟩; have n0_ := Aside0.mk (below_step (by repeat (first | (with_reducible first | exact HB.out | apply below_alloc | apply pw_below_drewN | apply below_drew1) | exact HB.out)) hb); clear HB; have HB := n0_; clear n0_; (try clear hb); (try clear hb2); (try clear hk); (try clear hi)))
    go_ret
    exact ⟨by first | rfl | (simp [errW_none, errW_some] <;> rfl) | (simp [*, errW_none, errW_some] <;> rfl), by repeat (first | (with_reducible first | exact HB.out | apply below_alloc | apply pw_below_drewN | apply below_drew1) | exact HB.out)⟩

/-- THE ONE PURE STATEMENT of weighbridgelaw03_CksumFolds: yours. -/
def weighbridgelaw03_CksumFolds.Pure : Prop := ∀ (a0 : Int), (Lit.int .u64 a0).wf = true → weighbridgelaw03_CksumFolds.f a0 = some true
theorem weighbridgelaw03_CksumFolds.walk (P : weighbridgelaw03_CksumFolds.Pure) (a0 : Int) (w : World) (w0 : (Lit.int .u64 a0).wf = true) :
    Calls Try.prog 6 #[.int .u64 a0] w fun e w' => e = .returned (.bool true) ∧ Below w.heap.size w w' := by
  have h := P a0 w0
  refine (weighbridgelaw03_CksumFolds.calls a0 true w h).mono ?_
  rintro e w' ⟨rfl, hd⟩
  exact ⟨rfl, hd⟩

end Go.Proofs.Ytkdmdnihkhhpiaa.Pr
