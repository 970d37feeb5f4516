-- trimmed by trims.py
-- Written by a program of the session (wip/tools) out of the translation, over the kit's print; with pieces of the session's own.
import Derived.Test.YtkdmdnihkhhpiaaPr0
import Derived.Test.YtkdmdnihkhhpiaaPr1
namespace Go.Proofs.Ytkdmdnihkhhpiaa.Pr
open Go.RowKit Go.Proofs.YtkdmdnihkhhpiaaW.PrintWords Go.Proofs.YtkdmdnihkhhpiaaW.PrintLast Go.Proofs.YtkdmdnihkhhpiaaW.PrintMore
attribute [local go_sem] max2_int min2_int max_two min_two max_three min_three max_four min_four   -- for this text's walks alone
set_option linter.unusedVariables false
set_option linter.unusedSimpArgs false
open Go.Proofs.Ytkdmdnihkhhpiaa.Sp
/-! ### weighbridgelaw03_examples: function 14 -/
def weighbridgelaw03_examples.f  : Option (Bool) := (cksum_Check.f (⟨#[0, 1, 242, 3, 244, 245, 246, 247]⟩ : ByteArray)).bind fun t108 => (if t108 = 8717 then ((cksum_Update.f 56623 21845 12933).bind fun t109 => (if t109 = 0 then ((cksum_Fold.f 65536).bind fun t110 => (some (t110 == 1))) else (some false))) else (some false))
set_option maxHeartbeats 8000000 in
set_option maxRecDepth 100000 in
theorem weighbridgelaw03_examples.calls  (r : Bool) (w : World) (h : weighbridgelaw03_examples.f  = some r) :
  Calls Try.prog 14 #[] w fun e w' => e = .returned (.bool r) ∧ Below w.heap.size w w' := by
 have HB := Aside0.mk (Below.refl w.heap.size w)
 have H : ((cksum_Check.f (⟨#[0, 1, 242, 3, 244, 245, 246, 247]⟩ : ByteArray)).bind fun t108 => (if t108 = 8717 then ((cksum_Update.f 56623 21845 12933).bind fun t109 => (if t109 = 0 then ((cksum_Fold.f 65536).bind fun t110 => (some (t110 == 1))) else (some false))) else (some false))) = some r := h
 clear h
 replace H := Option.bind_eq_some_iff.mp H
 obtain ⟨t108, A10, H⟩ := H
 (try set_option simprocs false in dsimp only at H)
 have A1 := Aside0.mk A10
 clear A10
 by_cases c2 : t108 = 8717
 rotate_left
 ·rw [if_neg c2] at H
  have c2b0 : (t108 == 8717) = false := beq_eq_false_iff_ne.mpr c2
  have c2b1 : (t108 != 8717) = true := bne_iff_ne.mpr c2
  obtain rfl := Option.some.inj H
  go_enter Try.func14, Try.ntmps14
  go_wp2_with (first | ((with_reducible refine gate_callee (f := 19) rfl ?_); refine goesL_ (some 1) rfl rfl Try.func19 (by kernel_rfl) rfl #[.string (⟨#[0, 1, 242, 3, 244, 245, 246, 247]⟩ : ByteArray)] rfl AG ?_; (with_reducible refine (cksum_Check.calls (⟨#[0, 1, 242, 3, 244, 245, 246, 247]⟩ : ByteArray) t108 _ A1.out).mono ?_); rintro e w10 ⟨rfl, hb⟩; (try clear A1); refine ⟨_, rfl, ?_⟩; have n0_ := Aside0.mk (below_step (BW HB) hb); clear HB; have HB := n0_; clear n0_; (try clear hb)))
  go_ret
  exact ⟨RT, BW HB⟩
 rw [if_pos c2] at H
 have c2b0 : (t108 == 8717) = true := beq_iff_eq.mpr c2
 have c2b1 : (t108 != 8717) = false := bne_eq_false_iff_eq.mpr c2
 clear c2
 replace H := Option.bind_eq_some_iff.mp H
 obtain ⟨t109, A30, H⟩ := H
 (try set_option simprocs false in dsimp only at H)
 have A3 := Aside0.mk A30
 clear A30
 by_cases c4 : t109 = 0
 ·rw [if_pos c4] at H
  have c4b0 : (t109 == 0) = true := beq_iff_eq.mpr c4
  have c4b1 : (t109 != 0) = false := bne_eq_false_iff_eq.mpr c4
  clear c4
  replace H := Option.bind_eq_some_iff.mp H
  obtain ⟨t110, A50, H⟩ := H
  (try set_option simprocs false in dsimp only at H)
  have A5 := Aside0.mk A50
  clear A50
  obtain rfl := Option.some.inj H
  go_enter Try.func14, Try.ntmps14
  go_wp2_with (first | ((with_reducible refine gate_callee (f := 19) rfl ?_); refine goesL_ (some 1) rfl rfl Try.func19 (by kernel_rfl) rfl #[.string (⟨#[0, 1, 242, 3, 244, 245, 246, 247]⟩ : ByteArray)] rfl AG ?_; (with_reducible refine (cksum_Check.calls (⟨#[0, 1, 242, 3, 244, 245, 246, 247]⟩ : ByteArray) t108 _ A1.out).mono ?_); rintro e w6 ⟨rfl, hb⟩; (try clear A1); refine ⟨_, rfl, ?_⟩; have n0_ := Aside0.mk (below_step (BW HB) hb); clear HB; have HB := n0_; clear n0_; (try clear hb)) | (go_at_call 30; (with_reducible refine (cksum_Update.calls 56623 21845 12933 t109 _ A3.out).mono ?_); rintro e w7 ⟨rfl, hb⟩; (try clear A3); have n0_ := Aside0.mk (below_step (BW HB) hb); clear HB; have HB := n0_; clear n0_; (try clear hb)) | (go_at_call 15; (with_reducible refine (cksum_Fold.calls 65536 t110 _ A5.out).mono ?_); rintro e w' ⟨rfl, ⟨nd, rfl⟩⟩))
  go_ret
  exact ⟨RT, BW HB⟩
 rw [if_neg c4] at H
 have c4b0 : (t109 == 0) = false := beq_eq_false_iff_ne.mpr c4
 have c4b1 : (t109 != 0) = true := bne_iff_ne.mpr c4
 obtain rfl := Option.some.inj H
 go_enter Try.func14, Try.ntmps14
 go_wp2_with (first | ((with_reducible refine gate_callee (f := 19) rfl ?_); refine goesL_ (some 1) rfl rfl Try.func19 (by kernel_rfl) rfl #[.string (⟨#[0, 1, 242, 3, 244, 245, 246, 247]⟩ : ByteArray)] rfl AG ?_; (with_reducible refine (cksum_Check.calls (⟨#[0, 1, 242, 3, 244, 245, 246, 247]⟩ : ByteArray) t108 _ A1.out).mono ?_); rintro e w8 ⟨rfl, hb⟩; (try clear A1); refine ⟨_, rfl, ?_⟩; have n0_ := Aside0.mk (below_step (BW HB) hb); clear HB; have HB := n0_; clear n0_; (try clear hb)) | (go_at_call 30; (with_reducible refine (cksum_Update.calls 56623 21845 12933 t109 _ A3.out).mono ?_); rintro e w9 ⟨rfl, hb⟩; (try clear A3); have n0_ := Aside0.mk (below_step (BW HB) hb); clear HB; have HB := n0_; clear n0_; (try clear hb)))
 go_ret
 exact ⟨RT, BW HB⟩

/-! ### weighbridgelaw03_empty: function 34 -/
def weighbridgelaw03_empty.l0 : Nat → ByteArray → Int → Option (Bool)
 | 0, _, _ => none
 | k + 1, x0, x3 => if x3 < (x0.size : Int) then (if 0 ≤ x3 then (if (bt x0 x3) = 0 then (weighbridgelaw03_empty.l0 k x0 (wrap64 (x3 + 1))) else (some false)) else (none)) else (some true)
def weighbridgelaw03_empty.f (k : Nat) (a0 : ByteArray) : Option (Bool) := weighbridgelaw03_empty.l0 k a0 0
theorem weighbridgelaw03_empty.mono_l : ∀ k, (∀ y0 y1, LeO (weighbridgelaw03_empty.l0 k y0 y1) (weighbridgelaw03_empty.l0 (k + 1) y0 y1))
 | 0 => fun _ _ r h => by simp [weighbridgelaw03_empty.l0] at h
 | k + 1 => by
  have ih0 := weighbridgelaw03_empty.mono_l k
  ·intro y0 y1
   unfold weighbridgelaw03_empty.l0
   repeat' first
   | (with_reducible exact ih0 _ _)
   | (with_reducible exact LeO.refl _)
   | (with_reducible exact LeO.none _)
   | (with_reducible refine LeO.ite ?_ ?_)
   | (with_reducible refine LeO.bind ?_ (fun _ => ?_))
   | exact ih0 _ _
   | exact LeO.none _
   | refine LeO.ite ?_ ?_
   | refine LeO.bind ?_ (fun _ => ?_)
theorem weighbridgelaw03_empty.mono : ∀ a0 k, LeO (weighbridgelaw03_empty.f k a0) (weighbridgelaw03_empty.f (k + 1) a0) := by
 intro a0 k
 have ih0 := weighbridgelaw03_empty.mono_l k
 unfold weighbridgelaw03_empty.f
 repeat' first
   | (with_reducible exact ih0 _ _)
   | (with_reducible exact LeO.refl _)
   | (with_reducible exact LeO.none _)
   | (with_reducible refine LeO.ite ?_ ?_)
   | (with_reducible refine LeO.bind ?_ (fun _ => ?_))
   | exact ih0 _ _
   | exact LeO.none _
   | refine LeO.ite ?_ ?_
   | refine LeO.bind ?_ (fun _ => ?_)
end Go.Proofs.Ytkdmdnihkhhpiaa.Pr
