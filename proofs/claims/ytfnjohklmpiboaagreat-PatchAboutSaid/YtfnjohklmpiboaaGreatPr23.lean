-- trimmed by trims.py
-- Written by a program of the session (wip/tools) out of the translation, over the kit's print; with pieces of the session's own.
import Derived.Test.YtfnjohklmpiboaaGreatPr0
import Derived.Test.YtfnjohklmpiboaaGreatPr8
import Derived.Test.YtfnjohklmpiboaaGreatPr11
import Derived.Test.YtfnjohklmpiboaaGreatPr22
namespace Go.Proofs.YtfnjohklmpiboaaGreat.Pr
open Go.RowKit Go.Proofs.YtfnjohklmpiboaaGreatW.PrintWords Go.Proofs.YtfnjohklmpiboaaGreatW.PrintLast Go.Proofs.YtfnjohklmpiboaaGreatW.PrintMore
attribute [local go_sem] max2_int min2_int max_two min_two max_three min_three max_four min_four   -- for this text's walks alone
set_option linter.unusedVariables false
set_option linter.unusedSimpArgs false
open Go.Proofs.YtfnjohklmpiboaaGreat.Sp
/-! ### weighbridgelaw10_PatchAbout: function 3 -/
def weighbridgelaw10_PatchAbout.f (k : Nat) (a0_0 : Int) (a0_1 : Int) (a0_2 : Int) (a0_3 : Int) (a0_4 : Int) (a0_5 : Int) (a0_6 : Int) (a0_7 : ByteArray) (a0_8 : Bool) (a0_9 : Int) (a0_10 : Int) (a1 : Int) (a2 : Int) (a3 : Int) (a4 : Int) (a5_0 : Int) (a5_1 : Int) (a5_2 : Int) (a5_3 : Int) (a6 : ByteArray) : Option (Bool) := (weighbridgelaw10_examples.f).bind fun t506 => (if t506 = true then ((weighbridgelaw10_Make_frame.f a0_0 a0_1 a0_2 a0_3 a0_4 a0_5 a0_6 a0_7 a0_8 a0_9 a0_10).bind fun t507 => ((weighbridgelaw10_broken.f t507 a1 a2).bind fun t508 => (if t508.size + a6.size ≤ 9223372036854775807 then ((patch_About.f (t508 ++ a6) a3 a4 a5_0 a5_1 a5_2 a5_3).bind fun bt509 => ((weighbridgelaw10_ref.f a5_0 a5_1 a5_2 a5_3).bind fun bt511 => ((weighbridgeref10_About.f k (t508 ++ a6) a3 a4 bt511.1 bt511.2.1 bt511.2.2.1 bt511.2.2.2).bind fun bt515 => (if bt509.1.toList = bt515.1.toList then (some (bt509.2 == bt515.2)) else (some false))))) else (none)))) else (some false))
theorem weighbridgelaw10_PatchAbout.mono : ∀ a0 a1 a2 a3 a4 a5 a6 a7 a8 a9 a10 a11 a12 a13 a14 a15 a16 a17 a18 a19 k, LeO (weighbridgelaw10_PatchAbout.f k a0 a1 a2 a3 a4 a5 a6 a7 a8 a9 a10 a11 a12 a13 a14 a15 a16 a17 a18 a19) (weighbridgelaw10_PatchAbout.f (k + 1) a0 a1 a2 a3 a4 a5 a6 a7 a8 a9 a10 a11 a12 a13 a14 a15 a16 a17 a18 a19) := by
 intro a0 a1 a2 a3 a4 a5 a6 a7 a8 a9 a10 a11 a12 a13 a14 a15 a16 a17 a18 a19 k
 unfold weighbridgelaw10_PatchAbout.f
 repeat' first
   | (with_reducible exact weighbridgeref10_About.mono _ _ _ _ _ _ _ _)
   | (with_reducible exact LeO.refl _)
   | (with_reducible exact LeO.none _)
   | (with_reducible refine LeO.ite ?_ ?_)
   | (with_reducible refine LeO.bind ?_ (fun _ => ?_))
   | exact weighbridgeref10_About.mono _ _ _ _ _ _ _ _
   | exact LeO.none _
   | refine LeO.ite ?_ ?_
   | refine LeO.bind ?_ (fun _ => ?_)
set_option maxHeartbeats 8000000 in
set_option maxRecDepth 100000 in
theorem weighbridgelaw10_PatchAbout.calls (k : Nat) (a0_0 : Int) (a0_1 : Int) (a0_2 : Int) (a0_3 : Int) (a0_4 : Int) (a0_5 : Int) (a0_6 : Int) (a0_7 : ByteArray) (a0_8 : Bool) (a0_9 : Int) (a0_10 : Int) (a1 : Int) (a2 : Int) (a3 : Int) (a4 : Int) (a5_0 : Int) (a5_1 : Int) (a5_2 : Int) (a5_3 : Int) (a6 : ByteArray) (r : Bool) (w : World) (h : weighbridgelaw10_PatchAbout.f k a0_0 a0_1 a0_2 a0_3 a0_4 a0_5 a0_6 a0_7 a0_8 a0_9 a0_10 a1 a2 a3 a4 a5_0 a5_1 a5_2 a5_3 a6 = some r) (hr_ : r = true) :
  Calls Tryz.prog 3 #[.agg #[.int .u8 a0_0, .int .u32 a0_1, .int .u32 a0_2, .int .u16 a0_3, .int .u16 a0_4, .int .u8 a0_5, .int .u8 a0_6, .string a0_7, .bool a0_8, .int .u32 a0_9, .int .u32 a0_10], .int .i64 a1, .int .u8 a2, .int .u32 a3, .int .u32 a4, .agg #[.int .u32 a5_0, .int .u32 a5_1, .int .i64 a5_2, .int .i64 a5_3], .string a6] w fun e w' => e = .returned (.bool r) ∧ Below w.heap.size w w' := by
 have hu25 := Tryz.underlying25
 have hu27 := Tryz.underlying27
 have HB := AA (Below.refl w.heap.size w)
 have H := h
 unfold weighbridgelaw10_PatchAbout.f at H
 clear h
 replace H := OB H
 obtain ⟨t506, A8, H⟩ := H
 (try set_option simprocs false in dsimp only at H)
 by_cases c9 : t506 = true
 rotate_left
 ·replace c9 := Bool.eq_false_iff.mpr c9
  subst c9
  replace H := IFN H
  exact absurd ((Option.some.inj H).trans hr_) (by decide)
 subst c9
 first | rw [if_pos rfl] at H | rw [if_pos trivial] at H
 replace H := OB H
 obtain ⟨t507, A10, H⟩ := H
 (try set_option simprocs false in dsimp only at H)
 replace H := OB H
 obtain ⟨t508, A11, H⟩ := H
 (try set_option simprocs false in dsimp only at H)
 replace H := IT H
 obtain ⟨c12, H⟩ := H
 have c12b0 := eq_true c12
 have c12b1 := decide_eq_true c12
 try have c12b2 := eq_false (Nat.not_lt.2 c12)
 replace H := OB H
 obtain ⟨⟨t509, t510⟩, A13, H⟩ := H
 (try set_option simprocs false in dsimp only at H)
 replace H := OB H
 obtain ⟨⟨t511, t512, t513, t514⟩, A14, H⟩ := H
 (try set_option simprocs false in dsimp only at H)
 replace H := OB H
 obtain ⟨⟨t515, t516⟩, A15, H⟩ := H
 (try set_option simprocs false in dsimp only at H)
 by_cases c16 : t509.toList = t515.toList
 ·rw [if_pos c16] at H
  have c16b0 : (t509.toList == t515.toList) = true := beq_iff_eq.mpr c16
  have c16b1 : (t509.toList != t515.toList) = false := bne_eq_false_iff_eq.mpr c16
  clear c16
  obtain rfl := Option.some.inj H
  go_enter Tryz.func3, Tryz.ntmps3
  go_wp2_with (first | ((with_reducible refine gate_dst (N := 7) rfl ?_); refine bx 7 25 (rr11 a0_0 a0_1 a0_2 a0_3 a0_4 a0_5 a0_6 a0_7 a0_8 a0_9 a0_10) ?_; intro gb504 hg w17 hbox hb; have BK504 := AA hbox; have GW504 := GS hg HB; have GE504 := GS hg HB; replace HB := BS HB hb; clear hb hbox hg) | ((with_reducible refine gate_dst (N := 12) rfl ?_); refine bx 12 27 #[.int .u32 a5_0, .int .u32 a5_1, .int .i64 a5_2, .int .i64 a5_3] ?_; intro gb505 hg w18 hbox hb; have BK505 := AA hbox; have GW505 := GS hg HB; have GE505 := GS hg HB; replace HB := BS HB hb; have NB504_505 := NL hg BK504; have NB505_504 := NG hg BK504; replace BK504 := BB BK504 hb; clear hb hbox hg) | ((with_reducible refine gkx 4 rfl ?_); refine gL 21 Tryz.func4 rfl (weighbridgelaw10_examples.calls  true _ A8.out) ?_; rintro w19 hb; (try clear A8); replace BK504 := BB BK504 hb; replace BK505 := BB BK505 hb; replace HB := BS HB hb; (try clear hb); have hnb20 := NB504_505.out; have hnc20 := NB505_504.out; have hz21 := blk11 BK504.out) | ((with_reducible refine gkx 6 rfl ?_); refine gL 25 Tryz.func6 rfl (weighbridgelaw10_Make_frame.calls a0_0 a0_1 a0_2 a0_3 a0_4 a0_5 a0_6 a0_7 a0_8 a0_9 a0_10 t507 _ A10.out) ?_; rintro w22 hb; (try clear A10); replace BK504 := BB BK504 hb; replace BK505 := BB BK505 hb; replace HB := BS HB hb; (try clear hb)) | ((with_reducible refine gkx 5 rfl ?_); refine gL 28 Tryz.func5 rfl (weighbridgelaw10_broken.calls t507 a1 a2 t508 _ A11.out) ?_; rintro w23 hb; (try clear A11); replace BK504 := BB BK504 hb; replace BK505 := BB BK505 hb; replace HB := BS HB hb; (try clear hb); have hz24 := blk4 BK505.out) | ((with_reducible refine gkx 7 rfl ?_); refine gL 36 Tryz.func7 rfl (patch_About.calls (t508 ++ a6) a3 a4 a5_0 a5_1 a5_2 a5_3 t509 t510 _ A13.out) ?_; rintro w25 hb; (try clear A13); replace BK504 := BB BK504 hb; replace BK505 := BB BK505 hb; replace HB := BS HB hb; (try clear hb); have hz26 := blk4 BK505.out) | ((with_reducible refine gkx 9 rfl ?_); refine gL 44 Tryz.func9 rfl (weighbridgelaw10_ref.calls a5_0 a5_1 a5_2 a5_3 t511 t512 t513 t514 _ A14.out) ?_; rintro w27 hb; (try clear A14); replace BK504 := BB BK504 hb; replace BK505 := BB BK505 hb; replace HB := BS HB hb; (try clear hb)) | ((with_reducible refine gkx 8 rfl ?_); refine gL 45 Tryz.func8 rfl (weighbridgeref10_About.calls k (t508 ++ a6) a3 a4 t511 t512 t513 t514 t515 t516 _ A15.out) ?_; rintro w28 hb; (try clear A15); replace BK504 := BB BK504 hb; replace BK505 := BB BK505 hb; replace HB := BS HB hb; (try clear hb)))
  go_ret
  exact ⟨RT, BW HB⟩
 rw [if_neg c16] at H
 have c16b0 : (t509.toList == t515.toList) = false := beq_eq_false_iff_ne.mpr c16
 have c16b1 : (t509.toList != t515.toList) = true := bne_iff_ne.mpr c16
 exact absurd ((Option.some.inj H).trans hr_) (by decide)

/-- THE ONE PURE STATEMENT of weighbridgelaw10_PatchAbout: yours. -/
def weighbridgelaw10_PatchAbout.Pure : Prop := ∀ (a0_0 : Int) (a0_1 : Int) (a0_2 : Int) (a0_3 : Int) (a0_4 : Int) (a0_5 : Int) (a0_6 : Int) (a0_7 : ByteArray) (a0_8 : Bool) (a0_9 : Int) (a0_10 : Int) (a1 : Int) (a2 : Int) (a3 : Int) (a4 : Int) (a5_0 : Int) (a5_1 : Int) (a5_2 : Int) (a5_3 : Int) (a6 : ByteArray), (Lit.int .u8 a0_0).wf = true → (Lit.int .u32 a0_1).wf = true → (Lit.int .u32 a0_2).wf = true → (Lit.int .u16 a0_3).wf = true → (Lit.int .u16 a0_4).wf = true → (Lit.int .u8 a0_5).wf = true → (Lit.int .u8 a0_6).wf = true → a0_7.size ≤ 140737488351232 → (Lit.int .u32 a0_9).wf = true → (Lit.int .u32 a0_10).wf = true → (Lit.int .i64 a1).wf = true → (Lit.int .u8 a2).wf = true → (Lit.int .u32 a3).wf = true → (Lit.int .u32 a4).wf = true → (Lit.int .u32 a5_0).wf = true → (Lit.int .u32 a5_1).wf = true → (Lit.int .i64 a5_2).wf = true → (Lit.int .i64 a5_3).wf = true → a6.size ≤ 140737488351232 → ∃ k, weighbridgelaw10_PatchAbout.f k a0_0 a0_1 a0_2 a0_3 a0_4 a0_5 a0_6 a0_7 a0_8 a0_9 a0_10 a1 a2 a3 a4 a5_0 a5_1 a5_2 a5_3 a6 = some true
theorem weighbridgelaw10_PatchAbout.walk (P : weighbridgelaw10_PatchAbout.Pure) (a0_0 : Int) (a0_1 : Int) (a0_2 : Int) (a0_3 : Int) (a0_4 : Int) (a0_5 : Int) (a0_6 : Int) (a0_7 : ByteArray) (a0_8 : Bool) (a0_9 : Int) (a0_10 : Int) (a1 : Int) (a2 : Int) (a3 : Int) (a4 : Int) (a5_0 : Int) (a5_1 : Int) (a5_2 : Int) (a5_3 : Int) (a6 : ByteArray) (w : World) (w0_0 : (Lit.int .u8 a0_0).wf = true) (w0_1 : (Lit.int .u32 a0_1).wf = true) (w0_2 : (Lit.int .u32 a0_2).wf = true) (w0_3 : (Lit.int .u16 a0_3).wf = true) (w0_4 : (Lit.int .u16 a0_4).wf = true) (w0_5 : (Lit.int .u8 a0_5).wf = true) (w0_6 : (Lit.int .u8 a0_6).wf = true) (w0_7 : a0_7.size ≤ 140737488351232) (w0_9 : (Lit.int .u32 a0_9).wf = true) (w0_10 : (Lit.int .u32 a0_10).wf = true) (w1 : (Lit.int .i64 a1).wf = true) (w2 : (Lit.int .u8 a2).wf = true) (w3 : (Lit.int .u32 a3).wf = true) (w4 : (Lit.int .u32 a4).wf = true) (w5_0 : (Lit.int .u32 a5_0).wf = true) (w5_1 : (Lit.int .u32 a5_1).wf = true) (w5_2 : (Lit.int .i64 a5_2).wf = true) (w5_3 : (Lit.int .i64 a5_3).wf = true) (w6 : a6.size ≤ 140737488351232) :
  Calls Tryz.prog 3 #[.agg #[.int .u8 a0_0, .int .u32 a0_1, .int .u32 a0_2, .int .u16 a0_3, .int .u16 a0_4, .int .u8 a0_5, .int .u8 a0_6, .string a0_7, .bool a0_8, .int .u32 a0_9, .int .u32 a0_10], .int .i64 a1, .int .u8 a2, .int .u32 a3, .int .u32 a4, .agg #[.int .u32 a5_0, .int .u32 a5_1, .int .i64 a5_2, .int .i64 a5_3], .string a6] w fun e w' => e = .returned (.bool true) ∧ Below w.heap.size w w' := by
 obtain ⟨k, h⟩ := P a0_0 a0_1 a0_2 a0_3 a0_4 a0_5 a0_6 a0_7 a0_8 a0_9 a0_10 a1 a2 a3 a4 a5_0 a5_1 a5_2 a5_3 a6 w0_0 w0_1 w0_2 w0_3 w0_4 w0_5 w0_6 w0_7 w0_9 w0_10 w1 w2 w3 w4 w5_0 w5_1 w5_2 w5_3 w6
 refine (weighbridgelaw10_PatchAbout.calls k a0_0 a0_1 a0_2 a0_3 a0_4 a0_5 a0_6 a0_7 a0_8 a0_9 a0_10 a1 a2 a3 a4 a5_0 a5_1 a5_2 a5_3 a6 true w h rfl).mono ?_
 rintro e w' ⟨rfl, hd⟩
 exact ⟨rfl, hd⟩
end Go.Proofs.YtfnjohklmpiboaaGreat.Pr
