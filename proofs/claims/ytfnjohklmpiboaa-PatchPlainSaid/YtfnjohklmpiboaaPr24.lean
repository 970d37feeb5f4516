-- trimmed by trims.py
-- Written by a program of the session (wip/tools) out of the translation, over the kit's print; with pieces of the session's own.
import Derived.Test.YtfnjohklmpiboaaPr0
import Derived.Test.YtfnjohklmpiboaaPr9
import Derived.Test.YtfnjohklmpiboaaPr19
import Derived.Test.YtfnjohklmpiboaaPr23
namespace Go.Proofs.Ytfnjohklmpiboaa.Pr
open Go.RowKit Go.Proofs.YtfnjohklmpiboaaW.PrintWords Go.Proofs.YtfnjohklmpiboaaW.PrintLast Go.Proofs.YtfnjohklmpiboaaW.PrintMore
attribute [local go_sem] max2_int min2_int max_two min_two max_three min_three max_four min_four   -- for this text's walks alone
set_option linter.unusedVariables false
set_option linter.unusedSimpArgs false
open Go.Proofs.Ytfnjohklmpiboaa.Sp
/-! ### weighbridgelaw10_PatchPlain: function 3 -/
def weighbridgelaw10_PatchPlain.f (k : Nat) (a0_0 : Int) (a0_1 : Int) (a0_2 : Int) (a0_3 : Int) (a0_4 : Int) (a0_5 : Int) (a0_6 : Int) (a0_7 : ByteArray) (a0_8 : Bool) (a0_9 : Int) (a0_10 : Int) (a1 : Int) (a2 : Int) (a3_0 : Int) (a3_1 : Int) (a3_2 : Int) (a3_3 : Int) (a4 : ByteArray) : Option (Bool) := (weighbridgelaw10_examples.f).bind fun t480 => (if t480 = true then ((weighbridgelaw10_Make_frame.f a0_0 a0_1 a0_2 a0_3 a0_4 a0_5 a0_6 a0_7 a0_8 a0_9 a0_10).bind fun t481 => ((weighbridgelaw10_broken.f t481 a1 a2).bind fun t482 => (if t482.size + a4.size ≤ 9223372036854775807 then ((patch_Plain.f (t482 ++ a4) a3_0 a3_1 a3_2 a3_3).bind fun bt483 => ((weighbridgelaw10_ref.f a3_0 a3_1 a3_2 a3_3).bind fun bt485 => ((weighbridgeref10_Plain.f k (t482 ++ a4) bt485.1 bt485.2.1 bt485.2.2.1 bt485.2.2.2).bind fun bt489 => (if bt483.1.toList = bt489.1.toList then (some (bt483.2 == bt489.2)) else (some false))))) else (none)))) else (some false))
theorem weighbridgelaw10_PatchPlain.mono : ∀ a0 a1 a2 a3 a4 a5 a6 a7 a8 a9 a10 a11 a12 a13 a14 a15 a16 a17 k, LeO (weighbridgelaw10_PatchPlain.f k a0 a1 a2 a3 a4 a5 a6 a7 a8 a9 a10 a11 a12 a13 a14 a15 a16 a17) (weighbridgelaw10_PatchPlain.f (k + 1) a0 a1 a2 a3 a4 a5 a6 a7 a8 a9 a10 a11 a12 a13 a14 a15 a16 a17) := by
 intro a0 a1 a2 a3 a4 a5 a6 a7 a8 a9 a10 a11 a12 a13 a14 a15 a16 a17 k
 unfold weighbridgelaw10_PatchPlain.f
 repeat' first
   | (with_reducible exact weighbridgeref10_Plain.mono _ _ _ _ _ _)
   | (with_reducible exact LeO.refl _)
   | (with_reducible exact LeO.none _)
   | (with_reducible refine LeO.ite ?_ ?_)
   | (with_reducible refine LeO.bind ?_ (fun _ => ?_))
   | exact weighbridgeref10_Plain.mono _ _ _ _ _ _
   | exact LeO.none _
   | refine LeO.ite ?_ ?_
   | refine LeO.bind ?_ (fun _ => ?_)
set_option maxHeartbeats 8000000 in
set_option maxRecDepth 100000 in
theorem weighbridgelaw10_PatchPlain.calls (k : Nat) (a0_0 : Int) (a0_1 : Int) (a0_2 : Int) (a0_3 : Int) (a0_4 : Int) (a0_5 : Int) (a0_6 : Int) (a0_7 : ByteArray) (a0_8 : Bool) (a0_9 : Int) (a0_10 : Int) (a1 : Int) (a2 : Int) (a3_0 : Int) (a3_1 : Int) (a3_2 : Int) (a3_3 : Int) (a4 : ByteArray) (r : Bool) (w : World) (h : weighbridgelaw10_PatchPlain.f k a0_0 a0_1 a0_2 a0_3 a0_4 a0_5 a0_6 a0_7 a0_8 a0_9 a0_10 a1 a2 a3_0 a3_1 a3_2 a3_3 a4 = some r) (hr_ : r = true) :
  Calls Try.prog 3 #[.agg #[.int .u8 a0_0, .int .u32 a0_1, .int .u32 a0_2, .int .u16 a0_3, .int .u16 a0_4, .int .u8 a0_5, .int .u8 a0_6, .string a0_7, .bool a0_8, .int .u32 a0_9, .int .u32 a0_10], .int .i64 a1, .int .u8 a2, .agg #[.int .u32 a3_0, .int .u32 a3_1, .int .i64 a3_2, .int .i64 a3_3], .string a4] w fun e w' => e = .returned (.bool r) ∧ Below w.heap.size w w' := by
 have hu25 := Try.underlying25
 have hu27 := Try.underlying27
 have HB := AA (Below.refl w.heap.size w)
 have H := h
 unfold weighbridgelaw10_PatchPlain.f at H
 clear h
 replace H := OB H
 obtain ⟨t480, A6, H⟩ := H
 (try set_option simprocs false in dsimp only at H)
 by_cases c7 : t480 = true
 rotate_left
 ·replace c7 := Bool.eq_false_iff.mpr c7
  subst c7
  replace H := IFN H
  exact absurd ((Option.some.inj H).trans hr_) (by decide)
 subst c7
 first | rw [if_pos rfl] at H | rw [if_pos trivial] at H
 replace H := OB H
 obtain ⟨t481, A8, H⟩ := H
 (try set_option simprocs false in dsimp only at H)
 replace H := OB H
 obtain ⟨t482, A9, H⟩ := H
 (try set_option simprocs false in dsimp only at H)
 replace H := IT H
 obtain ⟨c10, H⟩ := H
 have c10b0 := eq_true c10
 have c10b1 := decide_eq_true c10
 try have c10b2 := eq_false (Nat.not_lt.2 c10)
 replace H := OB H
 obtain ⟨⟨t483, t484⟩, A11, H⟩ := H
 (try set_option simprocs false in dsimp only at H)
 replace H := OB H
 obtain ⟨⟨t485, t486, t487, t488⟩, A12, H⟩ := H
 (try set_option simprocs false in dsimp only at H)
 replace H := OB H
 obtain ⟨⟨t489, t490⟩, A13, H⟩ := H
 (try set_option simprocs false in dsimp only at H)
 by_cases c14 : t483.toList = t489.toList
 ·rw [if_pos c14] at H
  have c14b0 : (t483.toList == t489.toList) = true := beq_iff_eq.mpr c14
  have c14b1 : (t483.toList != t489.toList) = false := bne_eq_false_iff_eq.mpr c14
  clear c14
  obtain rfl := Option.some.inj H
  go_enter Try.func3, Try.ntmps3
  go_wp2_with (first | ((with_reducible refine gate_dst (N := 5) rfl ?_); refine bx 5 25 (rr11 a0_0 a0_1 a0_2 a0_3 a0_4 a0_5 a0_6 a0_7 a0_8 a0_9 a0_10) ?_; intro gb478 hg w15 hbox hb; have BK478 := AA hbox; have GW478 := GS hg HB; have GE478 := GS hg HB; replace HB := BS HB hb; clear hb hbox hg) | ((with_reducible refine gate_dst (N := 8) rfl ?_); refine bx 8 27 #[.int .u32 a3_0, .int .u32 a3_1, .int .i64 a3_2, .int .i64 a3_3] ?_; intro gb479 hg w16 hbox hb; have BK479 := AA hbox; have GW479 := GS hg HB; have GE479 := GS hg HB; replace HB := BS HB hb; have NB478_479 := NL hg BK478; have NB479_478 := NG hg BK478; replace BK478 := BB BK478 hb; clear hb hbox hg) | ((with_reducible refine gkx 9 rfl ?_); refine gL 17 Try.func9 rfl (weighbridgelaw10_examples.calls  true _ A6.out) ?_; rintro w17 hb; (try clear A6); replace BK478 := BB BK478 hb; replace BK479 := BB BK479 hb; replace HB := BS HB hb; (try clear hb); have hnb18 := NB478_479.out; have hnc18 := NB479_478.out; have hz19 := blk11 BK478.out) | ((with_reducible refine gkx 11 rfl ?_); refine gL 21 Try.func11 rfl (weighbridgelaw10_Make_frame.calls a0_0 a0_1 a0_2 a0_3 a0_4 a0_5 a0_6 a0_7 a0_8 a0_9 a0_10 t481 _ A8.out) ?_; rintro w20 hb; (try clear A8); replace BK478 := BB BK478 hb; replace BK479 := BB BK479 hb; replace HB := BS HB hb; (try clear hb)) | ((with_reducible refine gkx 10 rfl ?_); refine gL 24 Try.func10 rfl (weighbridgelaw10_broken.calls t481 a1 a2 t482 _ A9.out) ?_; rintro w21 hb; (try clear A9); replace BK478 := BB BK478 hb; replace BK479 := BB BK479 hb; replace HB := BS HB hb; (try clear hb); have hz22 := blk4 BK479.out) | ((with_reducible refine gkx 12 rfl ?_); refine gL 30 Try.func12 rfl (patch_Plain.calls (t482 ++ a4) a3_0 a3_1 a3_2 a3_3 t483 t484 _ A11.out) ?_; rintro w23 hb; (try clear A11); replace BK478 := BB BK478 hb; replace BK479 := BB BK479 hb; replace HB := BS HB hb; (try clear hb); have hz24 := blk4 BK479.out) | ((with_reducible refine gkx 14 rfl ?_); refine gL 36 Try.func14 rfl (weighbridgelaw10_ref.calls a3_0 a3_1 a3_2 a3_3 t485 t486 t487 t488 _ A12.out) ?_; rintro w25 hb; (try clear A12); replace BK478 := BB BK478 hb; replace BK479 := BB BK479 hb; replace HB := BS HB hb; (try clear hb)) | ((with_reducible refine gkx 13 rfl ?_); refine gL 37 Try.func13 rfl (weighbridgeref10_Plain.calls k (t482 ++ a4) t485 t486 t487 t488 t489 t490 _ A13.out) ?_; rintro w26 hb; (try clear A13); replace BK478 := BB BK478 hb; replace BK479 := BB BK479 hb; replace HB := BS HB hb; (try clear hb)))
  go_ret
  exact ⟨RT, BW HB⟩
 rw [if_neg c14] at H
 have c14b0 : (t483.toList == t489.toList) = false := beq_eq_false_iff_ne.mpr c14
 have c14b1 : (t483.toList != t489.toList) = true := bne_iff_ne.mpr c14
 exact absurd ((Option.some.inj H).trans hr_) (by decide)

/-- THE ONE PURE STATEMENT of weighbridgelaw10_PatchPlain: yours. -/
def weighbridgelaw10_PatchPlain.Pure : Prop := ∀ (a0_0 : Int) (a0_1 : Int) (a0_2 : Int) (a0_3 : Int) (a0_4 : Int) (a0_5 : Int) (a0_6 : Int) (a0_7 : ByteArray) (a0_8 : Bool) (a0_9 : Int) (a0_10 : Int) (a1 : Int) (a2 : Int) (a3_0 : Int) (a3_1 : Int) (a3_2 : Int) (a3_3 : Int) (a4 : ByteArray), (Lit.int .u8 a0_0).wf = true → (Lit.int .u32 a0_1).wf = true → (Lit.int .u32 a0_2).wf = true → (Lit.int .u16 a0_3).wf = true → (Lit.int .u16 a0_4).wf = true → (Lit.int .u8 a0_5).wf = true → (Lit.int .u8 a0_6).wf = true → a0_7.size ≤ 140737488351232 → (Lit.int .u32 a0_9).wf = true → (Lit.int .u32 a0_10).wf = true → (Lit.int .i64 a1).wf = true → (Lit.int .u8 a2).wf = true → (Lit.int .u32 a3_0).wf = true → (Lit.int .u32 a3_1).wf = true → (Lit.int .i64 a3_2).wf = true → (Lit.int .i64 a3_3).wf = true → a4.size ≤ 140737488351232 → ∃ k, weighbridgelaw10_PatchPlain.f k a0_0 a0_1 a0_2 a0_3 a0_4 a0_5 a0_6 a0_7 a0_8 a0_9 a0_10 a1 a2 a3_0 a3_1 a3_2 a3_3 a4 = some true
theorem weighbridgelaw10_PatchPlain.walk (P : weighbridgelaw10_PatchPlain.Pure) (a0_0 : Int) (a0_1 : Int) (a0_2 : Int) (a0_3 : Int) (a0_4 : Int) (a0_5 : Int) (a0_6 : Int) (a0_7 : ByteArray) (a0_8 : Bool) (a0_9 : Int) (a0_10 : Int) (a1 : Int) (a2 : Int) (a3_0 : Int) (a3_1 : Int) (a3_2 : Int) (a3_3 : Int) (a4 : ByteArray) (w : World) (w0_0 : (Lit.int .u8 a0_0).wf = true) (w0_1 : (Lit.int .u32 a0_1).wf = true) (w0_2 : (Lit.int .u32 a0_2).wf = true) (w0_3 : (Lit.int .u16 a0_3).wf = true) (w0_4 : (Lit.int .u16 a0_4).wf = true) (w0_5 : (Lit.int .u8 a0_5).wf = true) (w0_6 : (Lit.int .u8 a0_6).wf = true) (w0_7 : a0_7.size ≤ 140737488351232) (w0_9 : (Lit.int .u32 a0_9).wf = true) (w0_10 : (Lit.int .u32 a0_10).wf = true) (w1 : (Lit.int .i64 a1).wf = true) (w2 : (Lit.int .u8 a2).wf = true) (w3_0 : (Lit.int .u32 a3_0).wf = true) (w3_1 : (Lit.int .u32 a3_1).wf = true) (w3_2 : (Lit.int .i64 a3_2).wf = true) (w3_3 : (Lit.int .i64 a3_3).wf = true) (w4 : a4.size ≤ 140737488351232) :
  Calls Try.prog 3 #[.agg #[.int .u8 a0_0, .int .u32 a0_1, .int .u32 a0_2, .int .u16 a0_3, .int .u16 a0_4, .int .u8 a0_5, .int .u8 a0_6, .string a0_7, .bool a0_8, .int .u32 a0_9, .int .u32 a0_10], .int .i64 a1, .int .u8 a2, .agg #[.int .u32 a3_0, .int .u32 a3_1, .int .i64 a3_2, .int .i64 a3_3], .string a4] w fun e w' => e = .returned (.bool true) ∧ Below w.heap.size w w' := by
 obtain ⟨k, h⟩ := P a0_0 a0_1 a0_2 a0_3 a0_4 a0_5 a0_6 a0_7 a0_8 a0_9 a0_10 a1 a2 a3_0 a3_1 a3_2 a3_3 a4 w0_0 w0_1 w0_2 w0_3 w0_4 w0_5 w0_6 w0_7 w0_9 w0_10 w1 w2 w3_0 w3_1 w3_2 w3_3 w4
 refine (weighbridgelaw10_PatchPlain.calls k a0_0 a0_1 a0_2 a0_3 a0_4 a0_5 a0_6 a0_7 a0_8 a0_9 a0_10 a1 a2 a3_0 a3_1 a3_2 a3_3 a4 true w h rfl).mono ?_
 rintro e w' ⟨rfl, hd⟩
 exact ⟨rfl, hd⟩
end Go.Proofs.Ytfnjohklmpiboaa.Pr
