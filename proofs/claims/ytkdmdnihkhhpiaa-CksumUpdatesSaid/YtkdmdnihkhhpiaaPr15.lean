-- Written by a program of the session (wip/tools) out of the translation, over the kit's print; with pieces of the session's own.
import Derived.Test.YtkdmdnihkhhpiaaPr0
import Derived.Test.YtkdmdnihkhhpiaaPr1
import Derived.Test.YtkdmdnihkhhpiaaPr3
import Derived.Test.YtkdmdnihkhhpiaaPr4
namespace Go.Proofs.Ytkdmdnihkhhpiaa.Pr
open Go.RowKit Go.Proofs.YtkdmdnihkhhpiaaW.PrintWords Go.Proofs.YtkdmdnihkhhpiaaW.PrintLast Go.Proofs.YtkdmdnihkhhpiaaW.PrintMore
attribute [local go_sem] max2_int min2_int max_two min_two max_three min_three max_four min_four   -- for this text's walks alone
set_option linter.unusedVariables false
set_option linter.unusedSimpArgs false
open Go.Proofs.Ytkdmdnihkhhpiaa.Sp
/-! ### weighbridgelaw03_CksumUpdates: function 12 -/
def weighbridgelaw03_CksumUpdates.f (a0 : Int) (a1 : Int) (a2 : Int) (a3 : Int) (a4 : Int) : Option (Bool) := (weighbridgelaw03_examples.f).bind fun t250 => (if t250 = true then ((cksum_Update.f a0 a1 a2).bind fun t251 => ((weighbridgeref03_Update.f a0 a1 a2).bind fun t252 => (if t251 = t252 then ((cksum_Update32.f a0 a3 a4).bind fun t253 => ((weighbridgeref03_Update32.f a0 a3 a4).bind fun t254 => (some (t253 == t254)))) else (some false)))) else (some false))
set_option maxHeartbeats 8000000 in
set_option maxRecDepth 100000 in
theorem weighbridgelaw03_CksumUpdates.calls (a0 : Int) (a1 : Int) (a2 : Int) (a3 : Int) (a4 : Int) (r : Bool) (w : World) (h : weighbridgelaw03_CksumUpdates.f a0 a1 a2 a3 a4 = some r) :
    Calls Try.prog 12 #[.int .u16 a0, .int .u16 a1, .int .u16 a2, .int .u32 a3, .int .u32 a4] w fun e w' => e = .returned (.bool r) ∧ Below w.heap.size w w' := by
  have HB := Aside0.mk (Below.refl w.heap.size w)
  have H : ((weighbridgelaw03_examples.f).bind fun t250 => (if t250 = true then ((cksum_Update.f a0 a1 a2).bind fun t251 => ((weighbridgeref03_Update.f a0 a1 a2).bind fun t252 => (if t251 = t252 then ((cksum_Update32.f a0 a3 a4).bind fun t253 => ((weighbridgeref03_Update32.f a0 a3 a4).bind fun t254 => (some (t253 == t254)))) else (some false)))) else (some false))) = some r := h
  clear h
  replace H := Option.bind_eq_some_iff.mp H
  obtain ⟨t250, A60, H⟩ := H
  replace H : (if t250 = true then ((cksum_Update.f a0 a1 a2).bind fun t251 => ((weighbridgeref03_Update.f a0 a1 a2).bind fun t252 => (if t251 = t252 then ((cksum_Update32.f a0 a3 a4).bind fun t253 => ((weighbridgeref03_Update32.f a0 a3 a4).bind fun t254 => (some (t253 == t254)))) else (some false)))) else (some false)) = some r := H
  have A6 := Aside0.mk A60
  clear A60
  by_cases c7 : t250 = true
  · subst c7
    have H1 : ((cksum_Update.f a0 a1 a2).bind fun t251 => ((weighbridgeref03_Update.f a0 a1 a2).bind fun t252 => (if t251 = t252 then ((cksum_Update32.f a0 a3 a4).bind fun t253 => ((weighbridgeref03_Update32.f a0 a3 a4).bind fun t254 => (some (t253 == t254)))) else (some false)))) = some r := by rw [if_pos rfl] at H; exact H
    clear H
    have H := H1
    clear H1
    replace H := Option.bind_eq_some_iff.mp H
    obtain ⟨t251, A80, H⟩ := H
    replace H : ((weighbridgeref03_Update.f a0 a1 a2).bind fun t252 => (if t251 = t252 then ((cksum_Update32.f a0 a3 a4).bind fun t253 => ((weighbridgeref03_Update32.f a0 a3 a4).bind fun t254 => (some (t253 == t254)))) else (some false))) = some r := H
    have A8 := Aside0.mk A80
    clear A80
    replace H := Option.bind_eq_some_iff.mp H
    obtain ⟨t252, A90, H⟩ := H
    replace H : (if t251 = t252 then ((cksum_Update32.f a0 a3 a4).bind fun t253 => ((weighbridgeref03_Update32.f a0 a3 a4).bind fun t254 => (some (t253 == t254)))) else (some false)) = some r := H
    have A9 := Aside0.mk A90
    clear A90
    by_cases c10 : t251 = t252
    · rw [if_pos c10] at H
      have c10b0 : (t251 == t252) = true := beq_iff_eq.mpr c10
      have c10b1 : (t251 != t252) = false := bne_eq_false_iff_eq.mpr c10
      clear c10
      replace H := Option.bind_eq_some_iff.mp H
      obtain ⟨t253, A110, H⟩ := H
      replace H : ((weighbridgeref03_Update32.f a0 a3 a4).bind fun t254 => (some (t253 == t254))) = some r := H
      have A11 := Aside0.mk A110
      clear A110
      replace H := Option.bind_eq_some_iff.mp H
      obtain ⟨t254, A120, H⟩ := H
      replace H : (some (t253 == t254)) = some r := H
      have A12 := Aside0.mk A120
      clear A120
      obtain rfl := Option.some.inj H
      go_enter Try.func12, Try.ntmps12
      go_wp2_with (first | ((with_reducible refine gate_callee (f := 14) rfl ?_); refine goesL_ (some 12) rfl rfl Try.func14 (by kernel_rfl) rfl #[] rfl (by (try simp only [List.map_toArray, List.map_cons, List.map_nil]); first | done | rfl | (simp only [List.length_drop, List.length_take]; rfl)) ?_; (with_reducible refine (weighbridgelaw03_examples.calls  true _ A6.out).mono ?_); rintro e w13 ⟨rfl, hb⟩; (try clear A6); refine ⟨_, rfl, ?_⟩; have n0_ := Aside0.mk (below_step (by repeat (first | (with_reducible first | exact HB.out | apply below_alloc | apply pw_below_drewN | apply below_drew1) | exact HB.out)) hb); clear HB; have HB := n0_; clear n0_; (try clear hb); (try clear hb2); (try clear hk); (try clear hi)) | (go_at_call 30; (with_reducible refine (cksum_Update.calls a0 a1 a2 t251 _ A8.out).mono ?_); rintro e w14 ⟨rfl, hb⟩; (try clear A8); have n0_ := Aside0.mk (below_step (by repeat (first | (with_reducible first | exact HB.out | apply below_alloc | apply pw_below_drewN | apply below_drew1) | exact HB.out)) hb); clear HB; have HB := n0_; clear n0_; (try clear hb); (try clear hb2); (try clear hk); (try clear hi)) | (go_at_call 31; (with_reducible refine (weighbridgeref03_Update.calls a0 a1 a2 t252 _ A9.out).mono ?_); rintro e w' ⟨rfl, ⟨nd, rfl⟩⟩) | (go_at_call 32; (with_reducible refine (cksum_Update32.calls a0 a3 a4 t253 _ A11.out).mono ?_); rintro e w15 ⟨rfl, hb⟩; (try clear A11); have n0_ := Aside0.mk (below_step (by repeat (first | (with_reducible first | exact HB.out | apply below_alloc | apply pw_below_drewN | apply below_drew1) | exact HB.out)) hb); clear HB; have HB := n0_; clear n0_; (try clear hb); (try clear hb2); (try clear hk); (try clear hi)) | (go_at_call 33; (with_reducible refine (weighbridgeref03_Update32.calls a0 a3 a4 t254 _ A12.out).mono ?_); rintro e w' ⟨rfl, ⟨nd, rfl⟩⟩))
      go_ret
      exact ⟨by first | rfl | (simp [errW_none, errW_some] <;> rfl) | (simp [*, errW_none, errW_some] <;> rfl), by repeat (first | (with_reducible first | exact HB.out | apply below_alloc | apply pw_below_drewN | apply below_drew1) | exact HB.out)⟩
    · rw [if_neg c10] at H
      have c10b0 : (t251 == t252) = false := beq_eq_false_iff_ne.mpr c10
      have c10b1 : (t251 != t252) = true := bne_iff_ne.mpr c10
      obtain rfl := Option.some.inj H
      go_enter Try.func12, Try.ntmps12
      go_wp2_with (first | ((with_reducible refine gate_callee (f := 14) rfl ?_); refine goesL_ (some 12) rfl rfl Try.func14 (by kernel_rfl) rfl #[] rfl (by (try simp only [List.map_toArray, List.map_cons, List.map_nil]); first | done | rfl | (simp only [List.length_drop, List.length_take]; rfl)) ?_; (with_reducible refine (weighbridgelaw03_examples.calls  true _ A6.out).mono ?_); rintro e w16 ⟨rfl, hb⟩; (try clear A6); refine ⟨_, rfl, ?_⟩; have n0_ := Aside0.mk (below_step (by repeat (first | (with_reducible first | exact HB.out | apply below_alloc | apply pw_below_drewN | apply below_drew1) | exact HB.out)) hb); clear HB; have HB := n0_; clear n0_; (try clear hb); (try clear hb2); (try clear hk); (try clear hi)) | (go_at_call 30; (with_reducible refine (cksum_Update.calls a0 a1 a2 t251 _ A8.out).mono ?_); rintro e w17 ⟨rfl, hb⟩; (try clear A8); have n0_ := Aside0.mk (below_step (by repeat (first | (with_reducible first | exact HB.out | apply below_alloc | apply pw_below_drewN | apply below_drew1) | exact HB.out)) hb); clear HB; have HB := n0_; clear n0_; (try clear hb); (try clear hb2); (try clear hk); (try clear hi)) | (go_at_call 31; (with_reducible refine (weighbridgeref03_Update.calls a0 a1 a2 t252 _ A9.out).mono ?_); rintro e w' ⟨rfl, ⟨nd, rfl⟩⟩))
      go_ret
      exact ⟨by first | rfl | (simp [errW_none, errW_some] <;> rfl) | (simp [*, errW_none, errW_some] <;> rfl), by repeat (first | (with_reducible first | exact HB.out | apply below_alloc | apply pw_below_drewN | apply below_drew1) | exact HB.out)⟩
  · replace c7 := Bool.eq_false_iff.mpr c7
    subst c7
    have H1 : (some false) = some r := by rw [if_neg (show ¬ (false = true) by decide)] at H; exact H
    clear H
    have H := H1
    clear H1
    obtain rfl := Option.some.inj H
    go_enter Try.func12, Try.ntmps12
    go_wp2_with (first | ((with_reducible refine gate_callee (f := 14) rfl ?_); refine goesL_ (some 12) rfl rfl Try.func14 (by kernel_rfl) rfl #[] rfl (by (try simp only [List.map_toArray, List.map_cons, List.map_nil]); first | done | rfl | (simp only [List.length_drop, List.length_take]; rfl)) ?_; (with_reducible refine (weighbridgelaw03_examples.calls  false _ A6.out).mono ?_); rintro e w18 ⟨rfl, hb⟩; (try clear A6); refine ⟨_, rfl, ?_⟩; have n0_ := Aside0.mk (below_step (by repeat (first | (with_reducible first | exact HB.out | apply below_alloc | apply pw_below_drewN | apply below_drew1) | exact HB.out)) hb); clear HB; have HB := n0_; clear n0_; (try clear hb); (try clear hb2); (try clear hk); (try clear hi)))
    go_ret
    exact ⟨by first | rfl | (simp [errW_none, errW_some] <;> rfl) | (simp [*, errW_none, errW_some] <;> rfl), by repeat (first | (with_reducible first | exact HB.out | apply below_alloc | apply pw_below_drewN | apply below_drew1) | exact HB.out)⟩

/-- THE ONE PURE STATEMENT of weighbridgelaw03_CksumUpdates: yours. -/
def weighbridgelaw03_CksumUpdates.Pure : Prop := ∀ (a0 : Int) (a1 : Int) (a2 : Int) (a3 : Int) (a4 : Int), (Lit.int .u16 a0).wf = true → (Lit.int .u16 a1).wf = true → (Lit.int .u16 a2).wf = true → (Lit.int .u32 a3).wf = true → (Lit.int .u32 a4).wf = true → weighbridgelaw03_CksumUpdates.f a0 a1 a2 a3 a4 = some true
theorem weighbridgelaw03_CksumUpdates.walk (P : weighbridgelaw03_CksumUpdates.Pure) (a0 : Int) (a1 : Int) (a2 : Int) (a3 : Int) (a4 : Int) (w : World) (w0 : (Lit.int .u16 a0).wf = true) (w1 : (Lit.int .u16 a1).wf = true) (w2 : (Lit.int .u16 a2).wf = true) (w3 : (Lit.int .u32 a3).wf = true) (w4 : (Lit.int .u32 a4).wf = true) :
    Calls Try.prog 12 #[.int .u16 a0, .int .u16 a1, .int .u16 a2, .int .u32 a3, .int .u32 a4] w fun e w' => e = .returned (.bool true) ∧ Below w.heap.size w w' := by
  have h := P a0 a1 a2 a3 a4 w0 w1 w2 w3 w4
  refine (weighbridgelaw03_CksumUpdates.calls a0 a1 a2 a3 a4 true w h).mono ?_
  rintro e w' ⟨rfl, hd⟩
  exact ⟨rfl, hd⟩

end Go.Proofs.Ytkdmdnihkhhpiaa.Pr
