-- trimmed by trims.py
-- Written by a program of the session (wip/tools) out of the translation, over the kit's print; with pieces of the session's own.
import Derived.Test.YtfnjohklmpiboaaPr0
import Derived.Test.YtfnjohklmpiboaaPr9
import Derived.Test.YtfnjohklmpiboaaPr19
namespace Go.Proofs.Ytfnjohklmpiboaa.Pr
open Go.RowKit Go.Proofs.YtfnjohklmpiboaaW.PrintWords Go.Proofs.YtfnjohklmpiboaaW.PrintLast Go.Proofs.YtfnjohklmpiboaaW.PrintMore
attribute [local go_sem] max2_int min2_int max_two min_two max_three min_three max_four min_four   -- for this text's walks alone
set_option linter.unusedVariables false
set_option linter.unusedSimpArgs false
open Go.Proofs.Ytfnjohklmpiboaa.Sp
/-! ### weighbridgelaw10_PatchSame: function 5 -/
mutual
def weighbridgelaw10_PatchSame.j0 : Nat → Bool → ByteArray → ByteArray → Bool → Int → Int → Int → Int → Int → Int → Int → ByteArray → Bool → Int → Int → Option (Bool)
 | 0, _, _, _, _, _, _, _, _, _, _, _, _, _, _, _ => none
 | k + 1, x11, x12, x13, x57, x517000, x517001, x517002, x517003, x517004, x517005, x517006, x517007, x517008, x517009, x517010 => if x57 = true then (some false) else (if x517000 = 1 then (if 26 ≤ 28 then (if 28 ≤ (x13.size : Int) then (if (((x13.extract 26 28).toList == ([0, 0] : List UInt8)) != x517008) = true then (some false) else (weighbridgelaw10_PatchSame.j1 k x11 x12 x13 26)) else (none)) else (none)) else (weighbridgelaw10_PatchSame.j1 k x11 x12 x13 36))
def weighbridgelaw10_PatchSame.j1 : Nat → Bool → ByteArray → ByteArray → Int → Option (Bool)
 | 0, _, _, _, _ => none
 | k + 1, x11, x12, x13, x15 => weighbridgelaw10_PatchSame.l0 k x11 x12 x13 x15 0
def weighbridgelaw10_PatchSame.l0 : Nat → Bool → ByteArray → ByteArray → Int → Int → Option (Bool)
 | 0, _, _, _, _, _ => none
 | k + 1, x11, x12, x13, x15, x17 => if x17 < (x13.size : Int) then (if x17 = 8 then (weighbridgelaw10_PatchSame.l0 k x11 x12 x13 x15 (wrap64 (x17 + 1))) else (if x17 ≥ 10 then (if x17 < 24 then (weighbridgelaw10_PatchSame.l0 k x11 x12 x13 x15 (wrap64 (x17 + 1))) else (if x17 = x15 then (weighbridgelaw10_PatchSame.l0 k x11 x12 x13 x15 (wrap64 (x17 + 1))) else (if (x17 = (wrap64 (x15 + 1))) then (weighbridgelaw10_PatchSame.l0 k x11 x12 x13 x15 (wrap64 (x17 + 1))) else (if 0 ≤ x17 then (if x17 < (x12.size : Int) then (if (bt x13 x17) = (bt x12 x17) then (weighbridgelaw10_PatchSame.l0 k x11 x12 x13 x15 (wrap64 (x17 + 1))) else (some false)) else (none)) else (none))))) else (if x17 = x15 then (weighbridgelaw10_PatchSame.l0 k x11 x12 x13 x15 (wrap64 (x17 + 1))) else (if (x17 = (wrap64 (x15 + 1))) then (weighbridgelaw10_PatchSame.l0 k x11 x12 x13 x15 (wrap64 (x17 + 1))) else (if 0 ≤ x17 then (if x17 < (x12.size : Int) then (if (bt x13 x17) = (bt x12 x17) then (weighbridgelaw10_PatchSame.l0 k x11 x12 x13 x15 (wrap64 (x17 + 1))) else (some false)) else (none)) else (none)))))) else (if x11 = true then (if 8 < (x13.size : Int) then (if 8 < (x12.size : Int) then (some ((bt x13 8) == (((bt x12 8) - 1) % 256))) else (none)) else (none)) else (some false))
end
def weighbridgelaw10_PatchSame.f (k : Nat) (a0_0 : Int) (a0_1 : Int) (a0_2 : Int) (a0_3 : Int) (a0_4 : Int) (a0_5 : Int) (a0_6 : Int) (a0_7 : ByteArray) (a0_8 : Bool) (a0_9 : Int) (a0_10 : Int) (a1 : Int) (a2 : Int) (a3 : Int) (a4 : Int) : Option (Bool) := (weighbridgelaw10_examples.f).bind fun t517 => (if t517 = true then ((weighbridgelaw10_Make_frame.f (Int.tmod a0_0 2) a0_1 a0_2 a0_3 a0_4 a0_5 (mx a0_6 2) a0_7 a0_8 a0_9 a0_10).bind fun t518 => ((patch_Plain.f t518 a1 a2 (wrap64 (a3)) (wrap64 (a4))).bind fun bt519 => (if bt519.2 = 0 then (if (bt519.1.size : Int) = (t518.size : Int) then (weighbridgelaw10_PatchSame.j0 k t517 t518 bt519.1 (decide ((bt519.1.size : Int) < 28)) (Int.tmod a0_0 2) a0_1 a0_2 a0_3 a0_4 a0_5 (mx a0_6 2) a0_7 a0_8 a0_9 a0_10) else (weighbridgelaw10_PatchSame.j0 k t517 t518 bt519.1 true (Int.tmod a0_0 2) a0_1 a0_2 a0_3 a0_4 a0_5 (mx a0_6 2) a0_7 a0_8 a0_9 a0_10)) else (weighbridgelaw10_PatchSame.j0 k t517 t518 bt519.1 true (Int.tmod a0_0 2) a0_1 a0_2 a0_3 a0_4 a0_5 (mx a0_6 2) a0_7 a0_8 a0_9 a0_10)))) else (some false))
theorem weighbridgelaw10_PatchSame.mono_l : ∀ k, (∀ y0 y1 y2 y3 y4 y5 y6 y7 y8 y9 y10 y11 y12 y13 y14, LeO (weighbridgelaw10_PatchSame.j0 k y0 y1 y2 y3 y4 y5 y6 y7 y8 y9 y10 y11 y12 y13 y14) (weighbridgelaw10_PatchSame.j0 (k + 1) y0 y1 y2 y3 y4 y5 y6 y7 y8 y9 y10 y11 y12 y13 y14)) ∧ (∀ y0 y1 y2 y3, LeO (weighbridgelaw10_PatchSame.j1 k y0 y1 y2 y3) (weighbridgelaw10_PatchSame.j1 (k + 1) y0 y1 y2 y3)) ∧ (∀ y0 y1 y2 y3 y4, LeO (weighbridgelaw10_PatchSame.l0 k y0 y1 y2 y3 y4) (weighbridgelaw10_PatchSame.l0 (k + 1) y0 y1 y2 y3 y4))
 | 0 => ⟨fun _ _ _ _ _ _ _ _ _ _ _ _ _ _ _ r h => by simp [weighbridgelaw10_PatchSame.j0] at h, fun _ _ _ _ r h => by simp [weighbridgelaw10_PatchSame.j1] at h, fun _ _ _ _ _ r h => by simp [weighbridgelaw10_PatchSame.l0] at h⟩
 | k + 1 => by
  obtain ⟨ih0, ih1, ih2⟩ := weighbridgelaw10_PatchSame.mono_l k
  refine ⟨?_, ?_, ?_⟩
  ·intro y0 y1 y2 y3 y4 y5 y6 y7 y8 y9 y10 y11 y12 y13 y14
   unfold weighbridgelaw10_PatchSame.j0
   repeat' first
   | (with_reducible exact ih0 _ _ _ _ _ _ _ _ _ _ _ _ _ _ _)
   | (with_reducible exact ih1 _ _ _ _)
   | (with_reducible exact ih2 _ _ _ _ _)
   | (with_reducible exact LeO.refl _)
   | (with_reducible exact LeO.none _)
   | (with_reducible refine LeO.ite ?_ ?_)
   | (with_reducible refine LeO.bind ?_ (fun _ => ?_))
   | exact ih0 _ _ _ _ _ _ _ _ _ _ _ _ _ _ _
   | exact ih1 _ _ _ _
   | exact ih2 _ _ _ _ _
   | exact LeO.none _
   | refine LeO.ite ?_ ?_
   | refine LeO.bind ?_ (fun _ => ?_)
  ·intro y0 y1 y2 y3
   unfold weighbridgelaw10_PatchSame.j1
   repeat' first
   | (with_reducible exact ih0 _ _ _ _ _ _ _ _ _ _ _ _ _ _ _)
   | (with_reducible exact ih1 _ _ _ _)
   | (with_reducible exact ih2 _ _ _ _ _)
   | (with_reducible exact LeO.refl _)
   | (with_reducible exact LeO.none _)
   | (with_reducible refine LeO.ite ?_ ?_)
   | (with_reducible refine LeO.bind ?_ (fun _ => ?_))
   | exact ih0 _ _ _ _ _ _ _ _ _ _ _ _ _ _ _
   | exact ih1 _ _ _ _
   | exact ih2 _ _ _ _ _
   | exact LeO.none _
   | refine LeO.ite ?_ ?_
   | refine LeO.bind ?_ (fun _ => ?_)
  ·intro y0 y1 y2 y3 y4
   unfold weighbridgelaw10_PatchSame.l0
   repeat' first
   | (with_reducible exact ih0 _ _ _ _ _ _ _ _ _ _ _ _ _ _ _)
   | (with_reducible exact ih1 _ _ _ _)
   | (with_reducible exact ih2 _ _ _ _ _)
   | (with_reducible exact LeO.refl _)
   | (with_reducible exact LeO.none _)
   | (with_reducible refine LeO.ite ?_ ?_)
   | (with_reducible refine LeO.bind ?_ (fun _ => ?_))
   | exact ih0 _ _ _ _ _ _ _ _ _ _ _ _ _ _ _
   | exact ih1 _ _ _ _
   | exact ih2 _ _ _ _ _
   | exact LeO.none _
   | refine LeO.ite ?_ ?_
   | refine LeO.bind ?_ (fun _ => ?_)
theorem weighbridgelaw10_PatchSame.mono : ∀ a0 a1 a2 a3 a4 a5 a6 a7 a8 a9 a10 a11 a12 a13 a14 k, LeO (weighbridgelaw10_PatchSame.f k a0 a1 a2 a3 a4 a5 a6 a7 a8 a9 a10 a11 a12 a13 a14) (weighbridgelaw10_PatchSame.f (k + 1) a0 a1 a2 a3 a4 a5 a6 a7 a8 a9 a10 a11 a12 a13 a14) := by
 intro a0 a1 a2 a3 a4 a5 a6 a7 a8 a9 a10 a11 a12 a13 a14 k
 obtain ⟨ih0, ih1, ih2⟩ := weighbridgelaw10_PatchSame.mono_l k
 unfold weighbridgelaw10_PatchSame.f
 repeat' first
   | (with_reducible exact ih0 _ _ _ _ _ _ _ _ _ _ _ _ _ _ _)
   | (with_reducible exact ih1 _ _ _ _)
   | (with_reducible exact ih2 _ _ _ _ _)
   | (with_reducible exact LeO.refl _)
   | (with_reducible exact LeO.none _)
   | (with_reducible refine LeO.ite ?_ ?_)
   | (with_reducible refine LeO.bind ?_ (fun _ => ?_))
   | exact ih0 _ _ _ _ _ _ _ _ _ _ _ _ _ _ _
   | exact ih1 _ _ _ _
   | exact ih2 _ _ _ _ _
   | exact LeO.none _
   | refine LeO.ite ?_ ?_
   | refine LeO.bind ?_ (fun _ => ?_)
set_option maxHeartbeats 8000000 in
set_option maxRecDepth 100000 in
theorem weighbridgelaw10_PatchSame.calls (k : Nat) (a0_0 : Int) (a0_1 : Int) (a0_2 : Int) (a0_3 : Int) (a0_4 : Int) (a0_5 : Int) (a0_6 : Int) (a0_7 : ByteArray) (a0_8 : Bool) (a0_9 : Int) (a0_10 : Int) (a1 : Int) (a2 : Int) (a3 : Int) (a4 : Int) (r : Bool) (w : World) (h : weighbridgelaw10_PatchSame.f k a0_0 a0_1 a0_2 a0_3 a0_4 a0_5 a0_6 a0_7 a0_8 a0_9 a0_10 a1 a2 a3 a4 = some r) (hr_ : r = true) :
  Calls Try.prog 5 #[.agg #[.int .u8 a0_0, .int .u32 a0_1, .int .u32 a0_2, .int .u16 a0_3, .int .u16 a0_4, .int .u8 a0_5, .int .u8 a0_6, .string a0_7, .bool a0_8, .int .u32 a0_9, .int .u32 a0_10], .int .u32 a1, .int .u32 a2, .int .u16 a3, .int .u16 a4] w fun e w' => e = .returned (.bool r) ∧ Below w.heap.size w w' := by
 have hu25 := Try.underlying25
 have hu27 := Try.underlying27
 have HB := Aside0.mk (Below.refl w.heap.size w)
 have H : ((weighbridgelaw10_examples.f).bind fun t517 => (if t517 = true then ((weighbridgelaw10_Make_frame.f (Int.tmod a0_0 2) a0_1 a0_2 a0_3 a0_4 a0_5 (mx a0_6 2) a0_7 a0_8 a0_9 a0_10).bind fun t518 => ((patch_Plain.f t518 a1 a2 (wrap64 (a3)) (wrap64 (a4))).bind fun bt519 => (if bt519.2 = 0 then (if (bt519.1.size : Int) = (t518.size : Int) then (weighbridgelaw10_PatchSame.j0 k t517 t518 bt519.1 (decide ((bt519.1.size : Int) < 28)) (Int.tmod a0_0 2) a0_1 a0_2 a0_3 a0_4 a0_5 (mx a0_6 2) a0_7 a0_8 a0_9 a0_10) else (weighbridgelaw10_PatchSame.j0 k t517 t518 bt519.1 true (Int.tmod a0_0 2) a0_1 a0_2 a0_3 a0_4 a0_5 (mx a0_6 2) a0_7 a0_8 a0_9 a0_10)) else (weighbridgelaw10_PatchSame.j0 k t517 t518 bt519.1 true (Int.tmod a0_0 2) a0_1 a0_2 a0_3 a0_4 a0_5 (mx a0_6 2) a0_7 a0_8 a0_9 a0_10)))) else (some false))) = some r := h
 clear h
 replace H := Option.bind_eq_some_iff.mp H
 obtain ⟨t517, A60, H⟩ := H
 (try set_option simprocs false in dsimp only at H)
 have A6 := Aside0.mk A60
 clear A60
 by_cases c7 : t517 = true
 rotate_left
 ·replace c7 := Bool.eq_false_iff.mpr c7
  subst c7
  have H1 : (some false) = some r := by rw [if_neg (show ¬ (false = true) by decide)] at H; exact H
  clear H
  have H := H1
  clear H1
  exact absurd ((Option.some.inj H).trans hr_) (by decide)
 subst c7
 first | rw [if_pos rfl] at H | rw [if_pos trivial] at H
 obtain ⟨ji8, hji8⟩ : ∃ j_ : Int, (mx a0_6 2) = j_ := ⟨_, rfl⟩
 replace H : ((weighbridgelaw10_Make_frame.f (Int.tmod a0_0 2) a0_1 a0_2 a0_3 a0_4 a0_5 (ji8) a0_7 a0_8 a0_9 a0_10).bind fun t518 => ((patch_Plain.f t518 a1 a2 (wrap64 (a3)) (wrap64 (a4))).bind fun bt519 => (if bt519.2 = 0 then (if (bt519.1.size : Int) = (t518.size : Int) then (weighbridgelaw10_PatchSame.j0 k true t518 bt519.1 (decide ((bt519.1.size : Int) < 28)) (Int.tmod a0_0 2) a0_1 a0_2 a0_3 a0_4 a0_5 ji8 a0_7 a0_8 a0_9 a0_10) else (weighbridgelaw10_PatchSame.j0 k true t518 bt519.1 true (Int.tmod a0_0 2) a0_1 a0_2 a0_3 a0_4 a0_5 ji8 a0_7 a0_8 a0_9 a0_10)) else (weighbridgelaw10_PatchSame.j0 k true t518 bt519.1 true (Int.tmod a0_0 2) a0_1 a0_2 a0_3 a0_4 a0_5 ji8 a0_7 a0_8 a0_9 a0_10)))) = some r := by first | (rw [hji8] at H; exact H) | (simp only [hji8] at H ⊢; exact H)
 (try rw [hji8] at A6)
 (try (have hji8l : 2 ≤ ji8 := by (rw [← hji8]; unfold mx; (repeat' split) <;> omega)))
 (try (have hji8m : 0 ≤ ji8 := by omega))
 have hji8_ : (if a0_6 < 2 then 2 else a0_6) = ji8 := hji8
 replace H := Option.bind_eq_some_iff.mp H
 obtain ⟨t518, A90, H⟩ := H
 (try set_option simprocs false in dsimp only at H)
 have A9 := Aside0.mk A90
 clear A90
 replace H := Option.bind_eq_some_iff.mp H
 obtain ⟨⟨t519, t520⟩, A100, H⟩ := H
 (try set_option simprocs false in dsimp only at H)
 have A10 := Aside0.mk A100
 clear A100
 have HC11 := Aside0.mk H
 clear H
 go_enter Try.func5, Try.ntmps5
 go_upto_region 8 with (first | ((with_reducible refine gate_dst (N := 5) rfl ?_); (try (refine gate_guard (by rfl) ?_; dsimp only)); refine box_event ?hg (N := 5) ?hd (cs := #[.int .u8 a0_0, .int .u32 a0_1, .int .u32 a0_2, .int .u16 a0_3, .int .u16 a0_4, .int .u8 a0_5, .int .u8 a0_6, .string a0_7, .bool a0_8, .int .u32 a0_9, .int .u32 a0_10]) (t := 25) ?hr ?_; (case hd => rfl); (case hg => rfl); (case hr => first | (go_simp; done) | (go_simp; rfl)); intro gb516 hg w12 hbox hb; have n0_ := Aside0.mk (below_step (BW HB) hb); have n1_ := Aside0.mk (hbox); have n2_ := Aside0.mk ((by rw [hg]; exact (below_size (BW HB)) : w.heap.size ≤ gb516)); have n3_ := Aside0.mk ((by rw [hg]; exact (below_size (BW HB)) : w.heap.size ≤ gb516)); clear HB; have HB := n0_; have BK516 := n1_; have GW516 := n2_; have GE516 := n3_; clear n0_ n1_ n2_ n3_; clear hb hbox hg) | (go_at_call 9; (with_reducible refine (weighbridgelaw10_examples.calls  true _ A6.out).mono ?_); rintro e w13 ⟨rfl, hb⟩; have n0_ := Aside0.mk (blk_below (g := gb516) (o := .cells #[.int .u8 a0_0, .int .u32 a0_1, .int .u32 a0_2, .int .u16 a0_3, .int .u16 a0_4, .int .u8 a0_5, .int .u8 a0_6, .string a0_7, .bool a0_8, .int .u32 a0_9, .int .u32 a0_10] 25 (0, 0)) (BD BK516) hb); have n1_ := Aside0.mk (below_step (BW HB) hb); clear BK516; clear HB; have BK516 := n0_; have HB := n1_; clear n0_ n1_; (try clear hb); (try clear hb2); (try clear hk); (try clear hi); obtain ⟨hcz14_0, hcz14_1, hcz14_2, hcz14_3, hcz14_4, hcz14_5, hcz14_6, hcz14_7, hcz14_8, hcz14_9, hcz14_10, hfz14_0, hfz14_1, hfz14_2, hfz14_3, hfz14_4, hfz14_5, hfz14_6, hfz14_7, hfz14_8, hfz14_9, hfz14_10⟩ := blk11 BK516.out) | (go_at_call 11; (with_reducible refine (weighbridgelaw10_Make_frame.calls (Int.tmod a0_0 2) a0_1 a0_2 a0_3 a0_4 a0_5 ji8 a0_7 a0_8 a0_9 a0_10 t518 _ A9.out).mono ?_); rintro e w15 ⟨rfl, hb⟩; have n0_ := Aside0.mk (blk_below (g := gb516) (o := .cells #[.int .u8 (Int.tmod a0_0 2), .int .u32 a0_1, .int .u32 a0_2, .int .u16 a0_3, .int .u16 a0_4, .int .u8 a0_5, .int .u8 ji8, .string a0_7, .bool a0_8, .int .u32 a0_9, .int .u32 a0_10] 25 (0, 0)) (BE BK516) hb); have n1_ := Aside0.mk (below_step (BW HB) hb); clear BK516; clear HB; have BK516 := n0_; have HB := n1_; clear n0_ n1_; (try clear hb); (try clear hb2); (try clear hk); (try clear hi)) | (go_at_call 12; (with_reducible refine (patch_Plain.calls t518 a1 a2 (wrap64 (a3)) (wrap64 (a4)) t519 t520 _ A10.out).mono ?_); rintro e w16 ⟨rfl, hb⟩; have n0_ := Aside0.mk (blk_below (g := gb516) (o := .cells #[.int .u8 (Int.tmod a0_0 2), .int .u32 a0_1, .int .u32 a0_2, .int .u16 a0_3, .int .u16 a0_4, .int .u8 a0_5, .int .u8 ji8, .string a0_7, .bool a0_8, .int .u32 a0_9, .int .u32 a0_10] 25 (0, 0)) (BD BK516) hb); have n1_ := Aside0.mk (below_step (BW HB) hb); clear BK516; clear HB; have BK516 := n0_; have HB := n1_; clear n0_ n1_; (try clear hb); (try clear hb2); (try clear hk); (try clear hi)))
 repeat (go_quiet (first | ((with_reducible refine gate_dst (N := 5) rfl ?_); (try (refine gate_guard (by rfl) ?_; dsimp only)); refine box_event ?hg (N := 5) ?hd (cs := #[.int .u8 a0_0, .int .u32 a0_1, .int .u32 a0_2, .int .u16 a0_3, .int .u16 a0_4, .int .u8 a0_5, .int .u8 a0_6, .string a0_7, .bool a0_8, .int .u32 a0_9, .int .u32 a0_10]) (t := 25) ?hr ?_; (case hd => rfl); (case hg => rfl); (case hr => first | (go_simp; done) | (go_simp; rfl)); intro gb516 hg w12 hbox hb; have n0_ := Aside0.mk (below_step (BW HB) hb); have n1_ := Aside0.mk (hbox); have n2_ := Aside0.mk ((by rw [hg]; exact (below_size (BW HB)) : w.heap.size ≤ gb516)); have n3_ := Aside0.mk ((by rw [hg]; exact (below_size (BW HB)) : w.heap.size ≤ gb516)); clear HB; have HB := n0_; have BK516 := n1_; have GW516 := n2_; have GE516 := n3_; clear n0_ n1_ n2_ n3_; clear hb hbox hg) | (go_at_call 9; (with_reducible refine (weighbridgelaw10_examples.calls  true _ A6.out).mono ?_); rintro e w13 ⟨rfl, hb⟩; have n0_ := Aside0.mk (blk_below (g := gb516) (o := .cells #[.int .u8 a0_0, .int .u32 a0_1, .int .u32 a0_2, .int .u16 a0_3, .int .u16 a0_4, .int .u8 a0_5, .int .u8 a0_6, .string a0_7, .bool a0_8, .int .u32 a0_9, .int .u32 a0_10] 25 (0, 0)) (BD BK516) hb); have n1_ := Aside0.mk (below_step (BW HB) hb); clear BK516; clear HB; have BK516 := n0_; have HB := n1_; clear n0_ n1_; (try clear hb); (try clear hb2); (try clear hk); (try clear hi); obtain ⟨hcz14_0, hcz14_1, hcz14_2, hcz14_3, hcz14_4, hcz14_5, hcz14_6, hcz14_7, hcz14_8, hcz14_9, hcz14_10, hfz14_0, hfz14_1, hfz14_2, hfz14_3, hfz14_4, hfz14_5, hfz14_6, hfz14_7, hfz14_8, hfz14_9, hfz14_10⟩ := blk11 BK516.out) | (go_at_call 11; (with_reducible refine (weighbridgelaw10_Make_frame.calls (Int.tmod a0_0 2) a0_1 a0_2 a0_3 a0_4 a0_5 ji8 a0_7 a0_8 a0_9 a0_10 t518 _ A9.out).mono ?_); rintro e w15 ⟨rfl, hb⟩; have n0_ := Aside0.mk (blk_below (g := gb516) (o := .cells #[.int .u8 (Int.tmod a0_0 2), .int .u32 a0_1, .int .u32 a0_2, .int .u16 a0_3, .int .u16 a0_4, .int .u8 a0_5, .int .u8 ji8, .string a0_7, .bool a0_8, .int .u32 a0_9, .int .u32 a0_10] 25 (0, 0)) (BE BK516) hb); have n1_ := Aside0.mk (below_step (BW HB) hb); clear BK516; clear HB; have BK516 := n0_; have HB := n1_; clear n0_ n1_; (try clear hb); (try clear hb2); (try clear hk); (try clear hi)) | (go_at_call 12; (with_reducible refine (patch_Plain.calls t518 a1 a2 (wrap64 (a3)) (wrap64 (a4)) t519 t520 _ A10.out).mono ?_); rintro e w16 ⟨rfl, hb⟩; have n0_ := Aside0.mk (blk_below (g := gb516) (o := .cells #[.int .u8 (Int.tmod a0_0 2), .int .u32 a0_1, .int .u32 a0_2, .int .u16 a0_3, .int .u16 a0_4, .int .u8 a0_5, .int .u8 ji8, .string a0_7, .bool a0_8, .int .u32 a0_9, .int .u32 a0_10] 25 (0, 0)) (BD BK516) hb); have n1_ := Aside0.mk (below_step (BW HB) hb); clear BK516; clear HB; have BK516 := n0_; have HB := n1_; clear n0_ n1_; (try clear hb); (try clear hb2); (try clear hk); (try clear hi))); go_upto_region 8 with (first | ((with_reducible refine gate_dst (N := 5) rfl ?_); (try (refine gate_guard (by rfl) ?_; dsimp only)); refine box_event ?hg (N := 5) ?hd (cs := #[.int .u8 a0_0, .int .u32 a0_1, .int .u32 a0_2, .int .u16 a0_3, .int .u16 a0_4, .int .u8 a0_5, .int .u8 a0_6, .string a0_7, .bool a0_8, .int .u32 a0_9, .int .u32 a0_10]) (t := 25) ?hr ?_; (case hd => rfl); (case hg => rfl); (case hr => first | (go_simp; done) | (go_simp; rfl)); intro gb516 hg w12 hbox hb; have n0_ := Aside0.mk (below_step (BW HB) hb); have n1_ := Aside0.mk (hbox); have n2_ := Aside0.mk ((by rw [hg]; exact (below_size (BW HB)) : w.heap.size ≤ gb516)); have n3_ := Aside0.mk ((by rw [hg]; exact (below_size (BW HB)) : w.heap.size ≤ gb516)); clear HB; have HB := n0_; have BK516 := n1_; have GW516 := n2_; have GE516 := n3_; clear n0_ n1_ n2_ n3_; clear hb hbox hg) | (go_at_call 9; (with_reducible refine (weighbridgelaw10_examples.calls  true _ A6.out).mono ?_); rintro e w13 ⟨rfl, hb⟩; have n0_ := Aside0.mk (blk_below (g := gb516) (o := .cells #[.int .u8 a0_0, .int .u32 a0_1, .int .u32 a0_2, .int .u16 a0_3, .int .u16 a0_4, .int .u8 a0_5, .int .u8 a0_6, .string a0_7, .bool a0_8, .int .u32 a0_9, .int .u32 a0_10] 25 (0, 0)) (BD BK516) hb); have n1_ := Aside0.mk (below_step (BW HB) hb); clear BK516; clear HB; have BK516 := n0_; have HB := n1_; clear n0_ n1_; (try clear hb); (try clear hb2); (try clear hk); (try clear hi); obtain ⟨hcz14_0, hcz14_1, hcz14_2, hcz14_3, hcz14_4, hcz14_5, hcz14_6, hcz14_7, hcz14_8, hcz14_9, hcz14_10, hfz14_0, hfz14_1, hfz14_2, hfz14_3, hfz14_4, hfz14_5, hfz14_6, hfz14_7, hfz14_8, hfz14_9, hfz14_10⟩ := blk11 BK516.out) | (go_at_call 11; (with_reducible refine (weighbridgelaw10_Make_frame.calls (Int.tmod a0_0 2) a0_1 a0_2 a0_3 a0_4 a0_5 ji8 a0_7 a0_8 a0_9 a0_10 t518 _ A9.out).mono ?_); rintro e w15 ⟨rfl, hb⟩; have n0_ := Aside0.mk (blk_below (g := gb516) (o := .cells #[.int .u8 (Int.tmod a0_0 2), .int .u32 a0_1, .int .u32 a0_2, .int .u16 a0_3, .int .u16 a0_4, .int .u8 a0_5, .int .u8 ji8, .string a0_7, .bool a0_8, .int .u32 a0_9, .int .u32 a0_10] 25 (0, 0)) (BE BK516) hb); have n1_ := Aside0.mk (below_step (BW HB) hb); clear BK516; clear HB; have BK516 := n0_; have HB := n1_; clear n0_ n1_; (try clear hb); (try clear hb2); (try clear hk); (try clear hi)) | (go_at_call 12; (with_reducible refine (patch_Plain.calls t518 a1 a2 (wrap64 (a3)) (wrap64 (a4)) t519 t520 _ A10.out).mono ?_); rintro e w16 ⟨rfl, hb⟩; have n0_ := Aside0.mk (blk_below (g := gb516) (o := .cells #[.int .u8 (Int.tmod a0_0 2), .int .u32 a0_1, .int .u32 a0_2, .int .u16 a0_3, .int .u16 a0_4, .int .u8 a0_5, .int .u8 ji8, .string a0_7, .bool a0_8, .int .u32 a0_9, .int .u32 a0_10] 25 (0, 0)) (BD BK516) hb); have n1_ := Aside0.mk (below_step (BW HB) hb); clear BK516; clear HB; have BK516 := n0_; have HB := n1_; clear n0_ n1_; (try clear hb); (try clear hb2); (try clear hk); (try clear hi))))
 (try simp only [Act.put, List.setIfInBounds_toArray, List.set_cons_zero, List.set_cons_succ])
 go_cut [57] (fun v57 wc => ∃ (kq : Nat) (x57_10 : Bool), v57 = .bool x57_10 ∧ Aside0 (weighbridgelaw10_PatchSame.j0 kq true t518 t519 x57_10 (Int.tmod a0_0 2) a0_1 a0_2 a0_3 a0_4 a0_5 ji8 a0_7 a0_8 a0_9 a0_10 = some r) ∧ Aside0 (kq ≤ k) ∧ Aside0 (wc.heap[gb516]? = some (.cells #[.int .u8 (Int.tmod a0_0 2), .int .u32 a0_1, .int .u32 a0_2, .int .u16 a0_3, .int .u16 a0_4, .int .u8 a0_5, .int .u8 ji8, .string a0_7, .bool a0_8, .int .u32 a0_9, .int .u32 a0_10] 25 (0, 0))) ∧ Aside0 (Below w.heap.size w wc))
 case first =>
  have H := HC11.out
  clear HC11
  by_cases c17 : t520 = 0
  rotate_left
  ·rw [if_neg c17] at H
   have c17b0 : (t520 == 0) = false := beq_eq_false_iff_ne.mpr c17
   have c17b1 : (t520 != 0) = true := bne_iff_ne.mpr c17
   (first | rw [c17b0] | (simp only [i64_w, i32_w]; rw [c17b0]) | skip)
   have H' := Aside0.mk H
   clear H
   go_wp2
   repeat (go_quiet (fail); try go_wp2)
   go_meet
   case rel => exact ⟨_, (true), (by first | rfl | (simp; done) | (congr 2; simp only [ByteArray.size_extract, ByteArray.size_append]; (try unfold wrap64); omega) | (simp only [ByteArray.size_extract, ByteArray.size_append, Nat.sub_zero]; done) | (congr 1; simp only [ByteArray.size_extract, ByteArray.size_append, Nat.sub_zero]; omega) | (simp [*]; done)), H', ⟨by first | omega | exact Nat.le_refl _⟩, ⟨BD BK516⟩, ⟨BW HB⟩⟩
  rw [if_pos c17] at H
  have c17b0 : (t520 == 0) = true := beq_iff_eq.mpr c17
  have c17b1 : (t520 != 0) = false := bne_eq_false_iff_eq.mpr c17
  clear c17
  (first | rw [c17b0] | (simp only [i64_w, i32_w]; rw [c17b0]) | skip)
  by_cases c18 : (t519.size : Int) = (t518.size : Int)
  ·rw [if_pos c18] at H
   have c18b0 : ((t519.size : Int) == (t518.size : Int)) = true := beq_iff_eq.mpr c18
   have c18b1 : ((t519.size : Int) != (t518.size : Int)) = false := bne_eq_false_iff_eq.mpr c18
   have c18b2 : (t519.size == t518.size) = true := by first | simpa using c18 | (simp at c18 ⊢; omega)
   clear c18
   have H' := Aside0.mk H
   clear H
   go_wp2
   repeat (go_quiet (fail); try go_wp2)
   go_meet
   case rel => exact ⟨_, (decide ((t519.size : Int) < 28)), (by first | rfl | (simp; done) | (congr 2; simp only [ByteArray.size_extract, ByteArray.size_append]; (try unfold wrap64); omega) | (simp only [ByteArray.size_extract, ByteArray.size_append, Nat.sub_zero]; done) | (congr 1; simp only [ByteArray.size_extract, ByteArray.size_append, Nat.sub_zero]; omega) | (simp [*]; done)), H', ⟨by first | omega | exact Nat.le_refl _⟩, ⟨BD BK516⟩, ⟨BW HB⟩⟩
  rw [if_neg c18] at H
  have c18b0 : ((t519.size : Int) == (t518.size : Int)) = false := beq_eq_false_iff_ne.mpr c18
  have c18b1 : ((t519.size : Int) != (t518.size : Int)) = true := bne_iff_ne.mpr c18
  have c18b2 : (t519.size == t518.size) = false := by first | simpa using c18 | (simp at c18 ⊢; omega)
  have H' := Aside0.mk H
  clear H
  go_wp2
  repeat (go_quiet (fail); try go_wp2)
  go_meet
  case rel => exact ⟨_, (true), (by first | rfl | (simp; done) | (congr 2; simp only [ByteArray.size_extract, ByteArray.size_append]; (try unfold wrap64); omega) | (simp only [ByteArray.size_extract, ByteArray.size_append, Nat.sub_zero]; done) | (congr 1; simp only [ByteArray.size_extract, ByteArray.size_append, Nat.sub_zero]; omega) | (simp [*]; done)), H', ⟨by first | omega | exact Nat.le_refl _⟩, ⟨BD BK516⟩, ⟨BW HB⟩⟩
 case rest =>
  clear HC11
  try clear c1
  try clear p2
  try clear c5
  try clear p6
  try clear c7
  try clear c17
  try clear c17b0
  try clear c17b1
  try clear c18
  try clear c18b0
  try clear c18b1
  try clear c18b2
  try clear hcz14_0
  try clear hcz14_1
  try clear hcz14_10
  try clear hcz14_2
  try clear hcz14_3
  try clear hcz14_4
  try clear hcz14_5
  try clear hcz14_6
  try clear hcz14_7
  try clear hcz14_8
  try clear hcz14_9
  try clear hfz14_0
  try clear hfz14_1
  try clear hfz14_10
  try clear hfz14_2
  try clear hfz14_3
  try clear hfz14_4
  try clear hfz14_5
  try clear hfz14_6
  try clear hfz14_7
  try clear hfz14_8
  try clear hfz14_9
  obtain ⟨kq, x57_10, rfl, HA, HJ10, BK516, HB⟩ := hcut
  cases kq with
  | zero => exact absurd HA.out (by simp [weighbridgelaw10_PatchSame.j0])
  | succ kj10 =>
   have H := HA.out
   clear HA
   simp only [weighbridgelaw10_PatchSame.j0] at H
   by_cases c19 : x57_10 = true
   ·subst c19
    first | rw [if_pos rfl] at H | rw [if_pos trivial] at H
    exact absurd ((Option.some.inj H).trans hr_) (by decide)
   replace c19 := Bool.eq_false_iff.mpr c19
   subst c19
   have H1 : (if (Int.tmod a0_0 2) = 1 then (if 26 ≤ 28 then (if 28 ≤ (t519.size : Int) then (if (((t519.extract 26 28).toList == ([0, 0] : List UInt8)) != a0_8) = true then (some false) else (weighbridgelaw10_PatchSame.j1 kj10 true t518 t519 26)) else (none)) else (none)) else (weighbridgelaw10_PatchSame.j1 kj10 true t518 t519 36)) = some r := by rw [if_neg (show ¬ (false = true) by decide)] at H; exact H
   clear H
   have H := H1
   clear H1
   have HC20 := Aside0.mk H
   clear H
   obtain ⟨hcz21_0, hcz21_1, hcz21_2, hcz21_3, hcz21_4, hcz21_5, hcz21_6, hcz21_7, hcz21_8, hcz21_9, hcz21_10, hfz21_0, hfz21_1, hfz21_2, hfz21_3, hfz21_4, hfz21_5, hfz21_6, hfz21_7, hfz21_8, hfz21_9, hfz21_10⟩ := blk11 BK516.out
   go_upto_if 60 with (fail)
   repeat (go_quiet (fail); go_upto_if 60 with (fail))
   go_cut [15] (fun v15 wc => ∃ (kq : Nat) (x15_19 : Int), v15 = .int .i64 x15_19 ∧ Aside0 (weighbridgelaw10_PatchSame.j1 kq true t518 t519 x15_19 = some r) ∧ Aside0 (kq ≤ kj10) ∧ Aside0 (wc.heap[gb516]? = some (.cells #[.int .u8 (Int.tmod a0_0 2), .int .u32 a0_1, .int .u32 a0_2, .int .u16 a0_3, .int .u16 a0_4, .int .u8 a0_5, .int .u8 ji8, .string a0_7, .bool a0_8, .int .u32 a0_9, .int .u32 a0_10] 25 (0, 0))) ∧ Aside0 (Below w.heap.size w wc))
   case first =>
    have H := HC20.out
    clear HC20
    by_cases c22 : (Int.tmod a0_0 2) = 1
    rotate_left
    ·rw [if_neg c22] at H
     have c22b0 : ((Int.tmod a0_0 2) == 1) = false := beq_eq_false_iff_ne.mpr c22
     have c22b1 : ((Int.tmod a0_0 2) != 1) = true := bne_iff_ne.mpr c22
     (first | rw [c22b0] | (simp only [i64_w, i32_w]; rw [c22b0]) | skip)
     have H' := Aside0.mk H
     clear H
     go_wp2
     repeat (go_quiet (fail); try go_wp2)
     go_meet
     case rel => exact ⟨_, (36), (by first | rfl | (simp; done) | (congr 2; simp only [ByteArray.size_extract, ByteArray.size_append]; (try unfold wrap64); omega) | (simp only [ByteArray.size_extract, ByteArray.size_append, Nat.sub_zero]; done) | (congr 1; simp only [ByteArray.size_extract, ByteArray.size_append, Nat.sub_zero]; omega) | (simp [*]; done)), H', ⟨by have := HJ10.out; first | omega | exact Nat.le_refl _⟩, ⟨BD BK516⟩, ⟨BW HB⟩⟩
    rw [if_pos c22] at H
    have c22b0 : ((Int.tmod a0_0 2) == 1) = true := beq_iff_eq.mpr c22
    have c22b1 : ((Int.tmod a0_0 2) != 1) = false := bne_eq_false_iff_eq.mpr c22
    clear c22
    (first | rw [c22b0] | (simp only [i64_w, i32_w]; rw [c22b0]) | skip)
    by_cases c23 : 26 ≤ 28
    rotate_left
    ·rw [if_neg c23] at H
     exact absurd H (by simp)
    rw [if_pos c23] at H
    have c23b0 := eq_true c23
    have c23b1 : decide (26 ≤ 28) = true := decide_eq_true c23
    clear c23
    by_cases c24 : 28 ≤ (t519.size : Int)
    rotate_left
    ·rw [if_neg c24] at H
     exact absurd H (by simp)
    rw [if_pos c24] at H
    have c24b0 := eq_true c24
    have c24b1 : decide (28 ≤ (t519.size : Int)) = true := decide_eq_true c24
    clear c24
    by_cases c25 : (((t519.extract 26 28).toList == ([0, 0] : List UInt8)) != a0_8) = true
    ·rw [if_pos c25] at H
     have c25b0 : (((t519.extract 26 28).toList == ([0, 0] : List UInt8)) != a0_8) = true := c25
     (try (have c25b1 : decide (((t519.extract 26 28).toList == ([0, 0] : List UInt8)) = a0_8) = false := by simpa using c25))
     (try (have c25b2 : (((t519.extract 26 28).toList == ([0, 0] : List UInt8)) == a0_8) = false := by simpa using c25))
     (try (have c25b3 : ¬ (((t519.extract 26 28).toList == ([0, 0] : List UInt8)) = a0_8) := by simpa using c25))
     clear c25
     exact absurd ((Option.some.inj H).trans hr_) (by decide)
    rw [if_neg c25] at H
    have c25b0 : (((t519.extract 26 28).toList == ([0, 0] : List UInt8)) != a0_8) = false := by simpa using c25
    (try (have c25b1 : decide (((t519.extract 26 28).toList == ([0, 0] : List UInt8)) = a0_8) = true := by simpa using c25))
    (try (have c25b2 : (((t519.extract 26 28).toList == ([0, 0] : List UInt8)) == a0_8) = true := by simpa using c25))
    clear c25
    have H' := Aside0.mk H
    clear H
    obtain ⟨hcz26_0, hcz26_1, hcz26_2, hcz26_3, hcz26_4, hcz26_5, hcz26_6, hcz26_7, hcz26_8, hcz26_9, hcz26_10, hfz26_0, hfz26_1, hfz26_2, hfz26_3, hfz26_4, hfz26_5, hfz26_6, hfz26_7, hfz26_8, hfz26_9, hfz26_10⟩ := blk11 BK516.out
    go_wp2
    repeat (go_quiet (fail); try go_wp2)
    go_meet
    case rel => exact ⟨_, (26), (by first | rfl | (simp; done) | (congr 2; simp only [ByteArray.size_extract, ByteArray.size_append]; (try have := of_eq_true c23b0); (try have := of_eq_true c24b0); (try unfold wrap64); omega) | (simp only [ByteArray.size_extract, ByteArray.size_append, Nat.sub_zero]; done) | (congr 1; simp only [ByteArray.size_extract, ByteArray.size_append, Nat.sub_zero]; (try have := of_eq_true c23b0); (try have := of_eq_true c24b0); omega) | (simp [*]; done)), H', ⟨by have := HJ10.out; first | omega | exact Nat.le_refl _⟩, ⟨BD BK516⟩, ⟨BW HB⟩⟩
   case rest =>
    clear HC20
    try clear c1
    try clear c2
    try clear p2
    try clear c5
    try clear p6
    try clear c7
    try clear c17
    try clear c17b0
    try clear c17b1
    try clear c18
    try clear c18b0
    try clear c18b1
    try clear c18b2
    try clear c19
    try clear c22
    try clear c22b0
    try clear c22b1
    try clear c23
    try clear c23b0
    try clear c23b1
    try clear c24
    try clear c24b0
    try clear c24b1
    try clear c25
    try clear c25b0
    try clear c25b1
    try clear c25b2
    try clear hcz14_0
    try clear hcz14_1
    try clear hcz14_10
    try clear hcz14_2
    try clear hcz14_3
    try clear hcz14_4
    try clear hcz14_5
    try clear hcz14_6
    try clear hcz14_7
    try clear hcz14_8
    try clear hcz14_9
    try clear hcz21_0
    try clear hcz21_1
    try clear hcz21_10
    try clear hcz21_2
    try clear hcz21_3
    try clear hcz21_4
    try clear hcz21_5
    try clear hcz21_6
    try clear hcz21_7
    try clear hcz21_8
    try clear hcz21_9
    try clear hcz26_0
    try clear hcz26_1
    try clear hcz26_10
    try clear hcz26_2
    try clear hcz26_3
    try clear hcz26_4
    try clear hcz26_5
    try clear hcz26_6
    try clear hcz26_7
    try clear hcz26_8
    try clear hcz26_9
    try clear hfz14_0
    try clear hfz14_1
    try clear hfz14_10
    try clear hfz14_2
    try clear hfz14_3
    try clear hfz14_4
    try clear hfz14_5
    try clear hfz14_6
    try clear hfz14_7
    try clear hfz14_8
    try clear hfz14_9
    try clear hfz21_0
    try clear hfz21_1
    try clear hfz21_10
    try clear hfz21_2
    try clear hfz21_3
    try clear hfz21_4
    try clear hfz21_5
    try clear hfz21_6
    try clear hfz21_7
    try clear hfz21_8
    try clear hfz21_9
    try clear hfz26_0
    try clear hfz26_1
    try clear hfz26_10
    try clear hfz26_2
    try clear hfz26_3
    try clear hfz26_4
    try clear hfz26_5
    try clear hfz26_6
    try clear hfz26_7
    try clear hfz26_8
    try clear hfz26_9
    try clear p2
    try clear p6
    obtain ⟨kq, x15_19, rfl, HA, HJ19, BK516, HB⟩ := hcut
    cases kq with
    | zero => exact absurd HA.out (by simp [weighbridgelaw10_PatchSame.j1])
    | succ kj19 =>
     have H := HA.out
     clear HA
     simp only [weighbridgelaw10_PatchSame.j1] at H
     have H' := Aside0.mk H
     clear H
     go_wp2
     repeat (go_quiet (fail); try go_wp2)
     go_loopg [17] kj19 (fun kq v17 w' => ∃ (x17_3 : Int), v17 = .int .i64 x17_3 ∧ Aside0 (weighbridgelaw10_PatchSame.l0 kq true t518 t519 x15_19 x17_3 = some r) ∧ Aside0 (kq ≤ kj19) ∧ Aside0 (w'.heap[gb516]? = some (.cells #[.int .u8 (Int.tmod a0_0 2), .int .u32 a0_1, .int .u32 a0_2, .int .u16 a0_3, .int .u16 a0_4, .int .u8 a0_5, .int .u8 ji8, .string a0_7, .bool a0_8, .int .u32 a0_9, .int .u32 a0_10] 25 (0, 0))) ∧ Aside0 (Below w.heap.size w w'))
     case atStart => exact ⟨(0), (by first | rfl | (simp; done) | (simp [*]; done)), H', ⟨Nat.le_refl _⟩, ⟨BD BK516⟩, ⟨BW HB⟩⟩
     case round =>
      clear H'
      try clear c1
      try clear c2
      try clear p2
      try clear c5
      try clear p6
      try clear c7
      try clear c17
      try clear c17b0
      try clear c17b1
      try clear c18
      try clear c18b0
      try clear c18b1
      try clear c18b2
      try clear c19
      try clear c22
      try clear c22b0
      try clear c22b1
      try clear c23
      try clear c23b0
      try clear c23b1
      try clear c24
      try clear c24b0
      try clear c24b1
      try clear c25
      try clear c25b0
      try clear c25b1
      try clear c25b2
      try clear hcz14_0
      try clear hcz14_1
      try clear hcz14_10
      try clear hcz14_2
      try clear hcz14_3
      try clear hcz14_4
      try clear hcz14_5
      try clear hcz14_6
      try clear hcz14_7
      try clear hcz14_8
      try clear hcz14_9
      try clear hcz21_0
      try clear hcz21_1
      try clear hcz21_10
      try clear hcz21_2
      try clear hcz21_3
      try clear hcz21_4
      try clear hcz21_5
      try clear hcz21_6
      try clear hcz21_7
      try clear hcz21_8
      try clear hcz21_9
      try clear hcz26_0
      try clear hcz26_1
      try clear hcz26_10
      try clear hcz26_2
      try clear hcz26_3
      try clear hcz26_4
      try clear hcz26_5
      try clear hcz26_6
      try clear hcz26_7
      try clear hcz26_8
      try clear hcz26_9
      try clear hfz14_0
      try clear hfz14_1
      try clear hfz14_10
      try clear hfz14_2
      try clear hfz14_3
      try clear hfz14_4
      try clear hfz14_5
      try clear hfz14_6
      try clear hfz14_7
      try clear hfz14_8
      try clear hfz14_9
      try clear hfz21_0
      try clear hfz21_1
      try clear hfz21_10
      try clear hfz21_2
      try clear hfz21_3
      try clear hfz21_4
      try clear hfz21_5
      try clear hfz21_6
      try clear hfz21_7
      try clear hfz21_8
      try clear hfz21_9
      try clear hfz26_0
      try clear hfz26_1
      try clear hfz26_10
      try clear hfz26_2
      try clear hfz26_3
      try clear hfz26_4
      try clear hfz26_5
      try clear hfz26_6
      try clear hfz26_7
      try clear hfz26_8
      try clear hfz26_9
      try clear p2
      try clear p6
      obtain ⟨x17_3, rfl, HA, HK3, BK516, HB⟩ := hrel
      cases gk with
      | zero => exact absurd HA.out (by simp [weighbridgelaw10_PatchSame.l0])
      | succ k3 =>
       have H := HA.out
       clear HA
       simp only [weighbridgelaw10_PatchSame.l0] at H
       by_cases c27 : x17_3 < (t519.size : Int)
       rotate_left
       ·rw [if_neg c27] at H
        have c27b0 : decide (x17_3 < (t519.size : Int)) = false := decide_eq_false c27
        clear c27
        have c45 : true = true := rfl
        clear c45
        first | rw [if_pos rfl] at H | rw [if_pos trivial] at H
        by_cases c46 : 8 < (t519.size : Int)
        rotate_left
        ·rw [if_neg c46] at H
         exact absurd H (by simp)
        rw [if_pos c46] at H
        have c46b0 : decide (8 < (t519.size : Int)) = true := decide_eq_true c46
        have c46b1 : decide (8 < t519.size) = true := decide_eq_true (by omega)
        clear c46
        by_cases c48 : 8 < (t518.size : Int)
        ·rw [if_pos c48] at H
         have c48b0 : decide (8 < (t518.size : Int)) = true := decide_eq_true c48
         have c48b1 : decide (8 < t518.size) = true := decide_eq_true (by omega)
         clear c48
         obtain rfl := Option.some.inj H
         have p47 : 0 ≤ (8 : Int) := (by omega)
         have q47 : 8 < t519.size := (by have : (8 : Int) < (t519.size : Int) := of_decide_eq_true (by first | (with_reducible assumption) | assumption); omega)
         have hx47 : ∀ h : 8 < t519.size, ((t519[8]'h).toNat : Int) = bt t519 8 := bt_at t519 8
         clear p47
         have qi47 : (8 < (t519.size : Int)) = True := eq_true (of_decide_eq_true (by first | (with_reducible assumption) | assumption))
         replace q47 := eq_true q47
         have p49 : 0 ≤ (8 : Int) := (by omega)
         have q49 : 8 < t518.size := (by have : (8 : Int) < (t518.size : Int) := of_decide_eq_true (by first | (with_reducible assumption) | assumption); omega)
         have hx49 : ∀ h : 8 < t518.size, ((t518[8]'h).toNat : Int) = bt t518 8 := bt_at t518 8
         clear p49
         have qi49 : (8 < (t518.size : Int)) = True := eq_true (of_decide_eq_true (by first | (with_reducible assumption) | assumption))
         replace q49 := eq_true q49
         go_wp2
         repeat (go_quiet (fail); try go_wp2)
         go_ret
         exact ⟨by first | rfl | (simp [errW_none, errW_some] <;> rfl) | (simp only [← hji8]; first | rfl | (simp [errW_none, errW_some] <;> rfl)) | (simp [*, errW_none, errW_some] <;> rfl), BW HB⟩
        rw [if_neg c48] at H
        exact absurd H (by simp)
       rw [if_pos c27] at H
       have c27b0 : decide (x17_3 < (t519.size : Int)) = true := decide_eq_true c27
       clear c27
       by_cases c28 : x17_3 = 8
       ·rw [if_pos c28] at H
        have c28b0 : (x17_3 == 8) = true := beq_iff_eq.mpr c28
        have c28b1 : (x17_3 != 8) = false := bne_eq_false_iff_eq.mpr c28
        clear c28
        have H' := Aside0.mk H
        clear H
        go_wp2
        repeat (go_quiet (fail); try go_wp2)
        go_roundg k3
        case measure => have := HJ10.out; have := HJ19.out; have := HK3.out; omega
        case rel => exact ⟨(wrap64 (x17_3 + 1)), (by first | rfl | (simp; done) | (congr 2; simp only [ByteArray.size_extract, ByteArray.size_append]; (try unfold wrap64); omega) | (simp only [ByteArray.size_extract, ByteArray.size_append, Nat.sub_zero]; done) | (congr 1; simp only [ByteArray.size_extract, ByteArray.size_append, Nat.sub_zero]; omega) | (simp [*]; done)), H', ⟨by have := HJ10.out; have := HJ19.out; have := HK3.out; omega⟩, ⟨BD BK516⟩, ⟨BW HB⟩⟩
       rw [if_neg c28] at H
       have c28b0 : (x17_3 == 8) = false := beq_eq_false_iff_ne.mpr c28
       have c28b1 : (x17_3 != 8) = true := bne_iff_ne.mpr c28
       by_cases c29 : x17_3 ≥ 10
       ·rw [if_pos c29] at H
        have c29b0 : decide (10 ≤ x17_3) = true := decide_eq_true c29
        clear c29
        by_cases c30 : x17_3 < 24
        ·rw [if_pos c30] at H
         have c30b0 : decide (x17_3 < 24) = true := decide_eq_true c30
         clear c30
         have H' := Aside0.mk H
         clear H
         go_wp2
         repeat (go_quiet (fail); try go_wp2)
         go_roundg k3
         case measure => have := HJ10.out; have := HJ19.out; have := HK3.out; omega
         case rel => exact ⟨(wrap64 (x17_3 + 1)), (by first | rfl | (simp; done) | (congr 2; simp only [ByteArray.size_extract, ByteArray.size_append]; (try unfold wrap64); omega) | (simp only [ByteArray.size_extract, ByteArray.size_append, Nat.sub_zero]; done) | (congr 1; simp only [ByteArray.size_extract, ByteArray.size_append, Nat.sub_zero]; omega) | (simp [*]; done)), H', ⟨by have := HJ10.out; have := HJ19.out; have := HK3.out; omega⟩, ⟨BD BK516⟩, ⟨BW HB⟩⟩
        rw [if_neg c30] at H
        have c30b0 : decide (x17_3 < 24) = false := decide_eq_false c30
        clear c30
        by_cases c31 : x17_3 = x15_19
        ·rw [if_pos c31] at H
         have c31b0 : (x17_3 == x15_19) = true := beq_iff_eq.mpr c31
         have c31b1 : (x17_3 != x15_19) = false := bne_eq_false_iff_eq.mpr c31
         clear c31
         have H' := Aside0.mk H
         clear H
         go_wp2
         repeat (go_quiet (fail); try go_wp2)
         go_roundg k3
         case measure => have := HJ10.out; have := HJ19.out; have := HK3.out; omega
         case rel => exact ⟨(wrap64 (x17_3 + 1)), (by first | rfl | (simp; done) | (congr 2; simp only [ByteArray.size_extract, ByteArray.size_append]; (try unfold wrap64); omega) | (simp only [ByteArray.size_extract, ByteArray.size_append, Nat.sub_zero]; done) | (congr 1; simp only [ByteArray.size_extract, ByteArray.size_append, Nat.sub_zero]; omega) | (simp [*]; done)), H', ⟨by have := HJ10.out; have := HJ19.out; have := HK3.out; omega⟩, ⟨BD BK516⟩, ⟨BW HB⟩⟩
        rw [if_neg c31] at H
        have c31b0 : (x17_3 == x15_19) = false := beq_eq_false_iff_ne.mpr c31
        have c31b1 : (x17_3 != x15_19) = true := bne_iff_ne.mpr c31
        by_cases c32 : (x17_3 = (wrap64 (x15_19 + 1)))
        ·rw [if_pos c32] at H
         have c32b0 : (x17_3 == (wrap64 (x15_19 + 1))) = true := beq_iff_eq.mpr c32
         have c32b1 : (x17_3 != (wrap64 (x15_19 + 1))) = false := bne_eq_false_iff_eq.mpr c32
         clear c32
         have H' := Aside0.mk H
         clear H
         go_wp2
         repeat (go_quiet (fail); try go_wp2)
         go_roundg k3
         case measure => have := HJ10.out; have := HJ19.out; have := HK3.out; omega
         case rel => exact ⟨(wrap64 (x17_3 + 1)), (by first | rfl | (simp; done) | (congr 2; simp only [ByteArray.size_extract, ByteArray.size_append]; (try unfold wrap64); omega) | (simp only [ByteArray.size_extract, ByteArray.size_append, Nat.sub_zero]; done) | (congr 1; simp only [ByteArray.size_extract, ByteArray.size_append, Nat.sub_zero]; omega) | (simp [*]; done)), H', ⟨by have := HJ10.out; have := HJ19.out; have := HK3.out; omega⟩, ⟨BD BK516⟩, ⟨BW HB⟩⟩
        rw [if_neg c32] at H
        have c32b0 : (x17_3 == (wrap64 (x15_19 + 1))) = false := beq_eq_false_iff_ne.mpr c32
        have c32b1 : (x17_3 != (wrap64 (x15_19 + 1))) = true := bne_iff_ne.mpr c32
        by_cases c33 : 0 ≤ x17_3
        rotate_left
        ·rw [if_neg c33] at H
         exact absurd H (by simp)
        rw [if_pos c33] at H
        have c33b0 : decide (0 ≤ x17_3) = true := decide_eq_true c33
        clear c33
        by_cases c35 : x17_3 < (t518.size : Int)
        ·rw [if_pos c35] at H
         have c35b0 : decide (x17_3 < (t518.size : Int)) = true := decide_eq_true c35
         clear c35
         by_cases c37 : (bt t519 x17_3) = (bt t518 x17_3)
         ·rw [if_pos c37] at H
          have c37b0 : ((bt t519 x17_3) == (bt t518 x17_3)) = true := beq_iff_eq.mpr c37
          have c37b1 : ((bt t519 x17_3) != (bt t518 x17_3)) = false := bne_eq_false_iff_eq.mpr c37
          clear c37
          have H' := Aside0.mk H
          clear H
          have p34 : 0 ≤ (x17_3 : Int) := of_decide_eq_true (by first | (with_reducible assumption) | assumption)
          have q34 : x17_3 < (t519.size : Int) := of_decide_eq_true (by first | (with_reducible assumption) | assumption)
          have hx34 := bt_at t519 x17_3
          replace p34 := eq_true p34
          replace q34 := eq_true q34
          have p36 : 0 ≤ (x17_3 : Int) := of_decide_eq_true (by first | (with_reducible assumption) | assumption)
          have q36 : x17_3 < (t518.size : Int) := of_decide_eq_true (by first | (with_reducible assumption) | assumption)
          have hx36 := bt_at t518 x17_3
          replace p36 := eq_true p36
          replace q36 := eq_true q36
          go_wp2
          repeat (go_quiet (fail); try go_wp2)
          go_roundg k3
          case measure => have := HJ10.out; have := HJ19.out; have := HK3.out; omega
          case rel => exact ⟨(wrap64 (x17_3 + 1)), (by first | rfl | (simp; done) | (congr 2; simp only [ByteArray.size_extract, ByteArray.size_append]; (try unfold wrap64); omega) | (simp only [ByteArray.size_extract, ByteArray.size_append, Nat.sub_zero]; done) | (congr 1; simp only [ByteArray.size_extract, ByteArray.size_append, Nat.sub_zero]; omega) | (simp [*]; done)), H', ⟨by have := HJ10.out; have := HJ19.out; have := HK3.out; omega⟩, ⟨BD BK516⟩, ⟨BW HB⟩⟩
         rw [if_neg c37] at H
         have c37b0 : ((bt t519 x17_3) == (bt t518 x17_3)) = false := beq_eq_false_iff_ne.mpr c37
         have c37b1 : ((bt t519 x17_3) != (bt t518 x17_3)) = true := bne_iff_ne.mpr c37
         exact absurd ((Option.some.inj H).trans hr_) (by decide)
        rw [if_neg c35] at H
        exact absurd H (by simp)
       rw [if_neg c29] at H
       have c29b0 : decide (10 ≤ x17_3) = false := decide_eq_false c29
       clear c29
       by_cases c38 : x17_3 = x15_19
       ·rw [if_pos c38] at H
        have c38b0 : (x17_3 == x15_19) = true := beq_iff_eq.mpr c38
        have c38b1 : (x17_3 != x15_19) = false := bne_eq_false_iff_eq.mpr c38
        clear c38
        have H' := Aside0.mk H
        clear H
        go_wp2
        repeat (go_quiet (fail); try go_wp2)
        go_roundg k3
        case measure => have := HJ10.out; have := HJ19.out; have := HK3.out; omega
        case rel => exact ⟨(wrap64 (x17_3 + 1)), (by first | rfl | (simp; done) | (congr 2; simp only [ByteArray.size_extract, ByteArray.size_append]; (try unfold wrap64); omega) | (simp only [ByteArray.size_extract, ByteArray.size_append, Nat.sub_zero]; done) | (congr 1; simp only [ByteArray.size_extract, ByteArray.size_append, Nat.sub_zero]; omega) | (simp [*]; done)), H', ⟨by have := HJ10.out; have := HJ19.out; have := HK3.out; omega⟩, ⟨BD BK516⟩, ⟨BW HB⟩⟩
       rw [if_neg c38] at H
       have c38b0 : (x17_3 == x15_19) = false := beq_eq_false_iff_ne.mpr c38
       have c38b1 : (x17_3 != x15_19) = true := bne_iff_ne.mpr c38
       by_cases c39 : (x17_3 = (wrap64 (x15_19 + 1)))
       ·rw [if_pos c39] at H
        have c39b0 : (x17_3 == (wrap64 (x15_19 + 1))) = true := beq_iff_eq.mpr c39
        have c39b1 : (x17_3 != (wrap64 (x15_19 + 1))) = false := bne_eq_false_iff_eq.mpr c39
        clear c39
        have H' := Aside0.mk H
        clear H
        go_wp2
        repeat (go_quiet (fail); try go_wp2)
        go_roundg k3
        case measure => have := HJ10.out; have := HJ19.out; have := HK3.out; omega
        case rel => exact ⟨(wrap64 (x17_3 + 1)), (by first | rfl | (simp; done) | (congr 2; simp only [ByteArray.size_extract, ByteArray.size_append]; (try unfold wrap64); omega) | (simp only [ByteArray.size_extract, ByteArray.size_append, Nat.sub_zero]; done) | (congr 1; simp only [ByteArray.size_extract, ByteArray.size_append, Nat.sub_zero]; omega) | (simp [*]; done)), H', ⟨by have := HJ10.out; have := HJ19.out; have := HK3.out; omega⟩, ⟨BD BK516⟩, ⟨BW HB⟩⟩
       rw [if_neg c39] at H
       have c39b0 : (x17_3 == (wrap64 (x15_19 + 1))) = false := beq_eq_false_iff_ne.mpr c39
       have c39b1 : (x17_3 != (wrap64 (x15_19 + 1))) = true := bne_iff_ne.mpr c39
       by_cases c40 : 0 ≤ x17_3
       rotate_left
       ·rw [if_neg c40] at H
        exact absurd H (by simp)
       rw [if_pos c40] at H
       have c40b0 : decide (0 ≤ x17_3) = true := decide_eq_true c40
       clear c40
       by_cases c42 : x17_3 < (t518.size : Int)
       ·rw [if_pos c42] at H
        have c42b0 : decide (x17_3 < (t518.size : Int)) = true := decide_eq_true c42
        clear c42
        by_cases c44 : (bt t519 x17_3) = (bt t518 x17_3)
        ·rw [if_pos c44] at H
         have c44b0 : ((bt t519 x17_3) == (bt t518 x17_3)) = true := beq_iff_eq.mpr c44
         have c44b1 : ((bt t519 x17_3) != (bt t518 x17_3)) = false := bne_eq_false_iff_eq.mpr c44
         clear c44
         have H' := Aside0.mk H
         clear H
         have p41 : 0 ≤ (x17_3 : Int) := of_decide_eq_true (by first | (with_reducible assumption) | assumption)
         have q41 : x17_3 < (t519.size : Int) := of_decide_eq_true (by first | (with_reducible assumption) | assumption)
         have hx41 := bt_at t519 x17_3
         replace p41 := eq_true p41
         replace q41 := eq_true q41
         have p43 : 0 ≤ (x17_3 : Int) := of_decide_eq_true (by first | (with_reducible assumption) | assumption)
         have q43 : x17_3 < (t518.size : Int) := of_decide_eq_true (by first | (with_reducible assumption) | assumption)
         have hx43 := bt_at t518 x17_3
         replace p43 := eq_true p43
         replace q43 := eq_true q43
         go_wp2
         repeat (go_quiet (fail); try go_wp2)
         go_roundg k3
         case measure => have := HJ10.out; have := HJ19.out; have := HK3.out; omega
         case rel => exact ⟨(wrap64 (x17_3 + 1)), (by first | rfl | (simp; done) | (congr 2; simp only [ByteArray.size_extract, ByteArray.size_append]; (try unfold wrap64); omega) | (simp only [ByteArray.size_extract, ByteArray.size_append, Nat.sub_zero]; done) | (congr 1; simp only [ByteArray.size_extract, ByteArray.size_append, Nat.sub_zero]; omega) | (simp [*]; done)), H', ⟨by have := HJ10.out; have := HJ19.out; have := HK3.out; omega⟩, ⟨BD BK516⟩, ⟨BW HB⟩⟩
        rw [if_neg c44] at H
        have c44b0 : ((bt t519 x17_3) == (bt t518 x17_3)) = false := beq_eq_false_iff_ne.mpr c44
        have c44b1 : ((bt t519 x17_3) != (bt t518 x17_3)) = true := bne_iff_ne.mpr c44
        exact absurd ((Option.some.inj H).trans hr_) (by decide)
       rw [if_neg c42] at H
       exact absurd H (by simp)

/-- THE ONE PURE STATEMENT of weighbridgelaw10_PatchSame: yours. -/
def weighbridgelaw10_PatchSame.Pure : Prop := ∀ (a0_0 : Int) (a0_1 : Int) (a0_2 : Int) (a0_3 : Int) (a0_4 : Int) (a0_5 : Int) (a0_6 : Int) (a0_7 : ByteArray) (a0_8 : Bool) (a0_9 : Int) (a0_10 : Int) (a1 : Int) (a2 : Int) (a3 : Int) (a4 : Int), (Lit.int .u8 a0_0).wf = true → (Lit.int .u32 a0_1).wf = true → (Lit.int .u32 a0_2).wf = true → (Lit.int .u16 a0_3).wf = true → (Lit.int .u16 a0_4).wf = true → (Lit.int .u8 a0_5).wf = true → (Lit.int .u8 a0_6).wf = true → a0_7.size ≤ 140737488351232 → (Lit.int .u32 a0_9).wf = true → (Lit.int .u32 a0_10).wf = true → (Lit.int .u32 a1).wf = true → (Lit.int .u32 a2).wf = true → (Lit.int .u16 a3).wf = true → (Lit.int .u16 a4).wf = true → ∃ k, weighbridgelaw10_PatchSame.f k a0_0 a0_1 a0_2 a0_3 a0_4 a0_5 a0_6 a0_7 a0_8 a0_9 a0_10 a1 a2 a3 a4 = some true
theorem weighbridgelaw10_PatchSame.walk (P : weighbridgelaw10_PatchSame.Pure) (a0_0 : Int) (a0_1 : Int) (a0_2 : Int) (a0_3 : Int) (a0_4 : Int) (a0_5 : Int) (a0_6 : Int) (a0_7 : ByteArray) (a0_8 : Bool) (a0_9 : Int) (a0_10 : Int) (a1 : Int) (a2 : Int) (a3 : Int) (a4 : Int) (w : World) (w0_0 : (Lit.int .u8 a0_0).wf = true) (w0_1 : (Lit.int .u32 a0_1).wf = true) (w0_2 : (Lit.int .u32 a0_2).wf = true) (w0_3 : (Lit.int .u16 a0_3).wf = true) (w0_4 : (Lit.int .u16 a0_4).wf = true) (w0_5 : (Lit.int .u8 a0_5).wf = true) (w0_6 : (Lit.int .u8 a0_6).wf = true) (w0_7 : a0_7.size ≤ 140737488351232) (w0_9 : (Lit.int .u32 a0_9).wf = true) (w0_10 : (Lit.int .u32 a0_10).wf = true) (w1 : (Lit.int .u32 a1).wf = true) (w2 : (Lit.int .u32 a2).wf = true) (w3 : (Lit.int .u16 a3).wf = true) (w4 : (Lit.int .u16 a4).wf = true) :
  Calls Try.prog 5 #[.agg #[.int .u8 a0_0, .int .u32 a0_1, .int .u32 a0_2, .int .u16 a0_3, .int .u16 a0_4, .int .u8 a0_5, .int .u8 a0_6, .string a0_7, .bool a0_8, .int .u32 a0_9, .int .u32 a0_10], .int .u32 a1, .int .u32 a2, .int .u16 a3, .int .u16 a4] w fun e w' => e = .returned (.bool true) ∧ Below w.heap.size w w' := by
 obtain ⟨k, h⟩ := P a0_0 a0_1 a0_2 a0_3 a0_4 a0_5 a0_6 a0_7 a0_8 a0_9 a0_10 a1 a2 a3 a4 w0_0 w0_1 w0_2 w0_3 w0_4 w0_5 w0_6 w0_7 w0_9 w0_10 w1 w2 w3 w4
 refine (weighbridgelaw10_PatchSame.calls k a0_0 a0_1 a0_2 a0_3 a0_4 a0_5 a0_6 a0_7 a0_8 a0_9 a0_10 a1 a2 a3 a4 true w h rfl).mono ?_
 rintro e w' ⟨rfl, hd⟩
 exact ⟨rfl, hd⟩
end Go.Proofs.Ytfnjohklmpiboaa.Pr
