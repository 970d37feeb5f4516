-- Written by a program of the session (wip/tools) out of the translation, over the kit's print; with pieces of the session's own.
import Derived.Test.YtfnjohklmpiboaaGreatPr0
import Derived.Test.YtfnjohklmpiboaaGreatPr1
import Derived.Test.YtfnjohklmpiboaaGreatPr2
import Derived.Test.YtfnjohklmpiboaaGreatPr6
import Derived.Test.YtfnjohklmpiboaaGreatPr21
namespace Go.Proofs.YtfnjohklmpiboaaGreat.Pr
open Go.RowKit Go.Proofs.YtfnjohklmpiboaaGreatW.PrintWords Go.Proofs.YtfnjohklmpiboaaGreatW.PrintLast Go.Proofs.YtfnjohklmpiboaaGreatW.PrintMore
attribute [local go_sem] max2_int min2_int max_two min_two max_three min_three max_four min_four   -- for this text's walks alone
set_option linter.unusedVariables false
set_option linter.unusedSimpArgs false
open Go.Proofs.YtfnjohklmpiboaaGreat.Sp
/-! ### weighbridgeref10_About: function 8 -/
mutual
def weighbridgeref10_About.j0 : Nat → ByteArray → Int → Int → Bool → Bool → Int → Int → Int → Int → Int → Int → Int → Int → Int → Int → Int → Int → Int → Int → Int → Int → Int → Int → Option (ByteArray × Int)
 | 0, _, _, _, _, _, _, _, _, _, _, _, _, _, _, _, _, _, _, _, _, _, _, _ => none
 | k + 1, x0, x15, x16, x18, x94, x465000, x465001, x465002, x465003, x481000, x481001, x481002, x481003, x481004, x481005, x481006, x481007, x481008, x481009, x481010, x481011, x481012, x481013 => if x94 = true then ((weighbridgeref10_on.f x16 x481003 x481004 x481005 x481006 x481007 x465000 x465001 x465002 x465003).bind fun t491 => ((weighbridgeref03_Update.f (IntKind.u16.wrap (t491)) (IntKind.u16.wrap (x481006)) (IntKind.u16.wrap (x465002))).bind fun t492 => ((weighbridgeref03_Update.f t492 (IntKind.u16.wrap (x481007)) (IntKind.u16.wrap (x465003))).bind fun t493 => (if x18 = true then (if t493 = 0 then ((weighbridgeref10_with.f x0 x15 2 65535).bind fun t494 => (weighbridgeref10_About.j1 k t494 x465000 x465001 x465002 x465003 x481000 x481001 x481002 x481003 x481004 x481005 x481006 x481007 x481008 x481009 x481010 x481011 x481012 x481013)) else ((weighbridgeref10_with.f x0 x15 2 (wrap64 (t493))).bind fun t495 => (weighbridgeref10_About.j1 k t495 x465000 x465001 x465002 x465003 x481000 x481001 x481002 x481003 x481004 x481005 x481006 x481007 x481008 x481009 x481010 x481011 x481012 x481013))) else ((weighbridgeref10_with.f x0 x15 2 (wrap64 (t493))).bind fun t496 => (weighbridgeref10_About.j1 k t496 x465000 x465001 x465002 x465003 x481000 x481001 x481002 x481003 x481004 x481005 x481006 x481007 x481008 x481009 x481010 x481011 x481012 x481013)))))) else (weighbridgeref10_About.j1 k x0 x465000 x465001 x465002 x465003 x481000 x481001 x481002 x481003 x481004 x481005 x481006 x481007 x481008 x481009 x481010 x481011 x481012 x481013)
def weighbridgeref10_About.j1 : Nat → ByteArray → Int → Int → Int → Int → Int → Int → Int → Int → Int → Int → Int → Int → Int → Int → Int → Int → Int → Int → Option (ByteArray × Int)
 | 0, _, _, _, _, _, _, _, _, _, _, _, _, _, _, _, _, _, _, _ => none
 | k + 1, x0, x465000, x465001, x465002, x465003, x481000, x481001, x481002, x481003, x481004, x481005, x481006, x481007, x481008, x481009, x481010, x481011, x481012, x481013 => (weighbridgeref10_with.f x0 x481013 2 x465002).bind fun t497 => ((weighbridgeref10_with.f t497 (wrap64 (x481013 + 2)) 2 x465003).bind fun t498 => ((weighbridgeref10_with.f t498 (wrap64 (x481001 + 2)) 2 0).bind fun t499 => (if 0 ≤ x481001 then (if x481001 ≤ (t499.size : Int) then ((weighbridgeref03_Check.f (t499.extract (x481001 : Int).toNat t499.size)).bind fun t500 => ((weighbridgeref10_with.f t499 (wrap64 (x481001 + 2)) 2 (wrap64 (t500))).bind fun t501 => (some (t501, 0)))) else (none)) else (none))))
end
def weighbridgeref10_About.f (k : Nat) (a0 : ByteArray) (a1 : Int) (a2 : Int) (a3_0 : Int) (a3_1 : Int) (a3_2 : Int) (a3_3 : Int) : Option (ByteArray × Int) := (weighbridgeref10_ready.f k a0 2 a3_0 a3_1 a3_2 a3_3).bind fun bt465 => (if bt465.2.2.2.2.2.2.2.2.2.2.2.2.2.2 = 0 then (if 0 ≤ bt465.2.2.1 then (if bt465.2.2.1 ≤ (a0.size : Int) then ((weighbridgeref10_outer.f (a0.extract 0 (bt465.2.2.1 : Int).toNat) bt465.2.1 a1 a2).bind fun t481 => ((weighbridgeref10_num.f t481 (wrap64 (bt465.2.2.2.2.2.2.2.2.2.2.2.2.1 + 10)) 2).bind fun t482 => ((weighbridgeref10_on.f t482 bt465.2.2.2.1 bt465.2.2.2.2.1 bt465.2.2.2.2.2.1 bt465.2.2.2.2.2.2.1 bt465.2.2.2.2.2.2.2.1 a3_0 a3_1 a3_2 a3_3).bind fun t483 => ((weighbridgeref10_with.f t481 (wrap64 (bt465.2.2.2.2.2.2.2.2.2.2.2.2.1 + 10)) 2 t483).bind fun t484 => ((weighbridgeref10_with.f t484 (wrap64 (bt465.2.2.2.2.2.2.2.2.2.2.2.2.1 + 12)) 4 (wrap64 (a3_0))).bind fun t485 => ((weighbridgeref10_with.f t485 (wrap64 (bt465.2.2.2.2.2.2.2.2.2.2.2.2.1 + 16)) 4 (wrap64 (a3_1))).bind fun t486 => ((weighbridgeref08_Place.f bt465.2.2.2.1).bind fun bt487 => ((weighbridgeref01_Get.f t486 (wrap64 (bt465.2.2.2.2.2.2.2.2.2.2.2.2.2.1 + bt487.1)) 2).bind fun bt489 => (if bt489.2 = true then (if bt465.2.2.2.1 = 17 then (weighbridgeref10_About.j0 k t486 (wrap64 (bt465.2.2.2.2.2.2.2.2.2.2.2.2.2.1 + bt487.1)) bt489.1 (bt465.2.2.2.1 == 17) (!(bt489.1 == 0)) a3_0 a3_1 a3_2 a3_3 bt465.1 bt465.2.1 bt465.2.2.1 bt465.2.2.2.1 bt465.2.2.2.2.1 bt465.2.2.2.2.2.1 bt465.2.2.2.2.2.2.1 bt465.2.2.2.2.2.2.2.1 bt465.2.2.2.2.2.2.2.2.1 bt465.2.2.2.2.2.2.2.2.2.1 bt465.2.2.2.2.2.2.2.2.2.2.1 bt465.2.2.2.2.2.2.2.2.2.2.2.1 bt465.2.2.2.2.2.2.2.2.2.2.2.2.1 bt465.2.2.2.2.2.2.2.2.2.2.2.2.2.1) else (weighbridgeref10_About.j0 k t486 (wrap64 (bt465.2.2.2.2.2.2.2.2.2.2.2.2.2.1 + bt487.1)) bt489.1 (bt465.2.2.2.1 == 17) (!false) a3_0 a3_1 a3_2 a3_3 bt465.1 bt465.2.1 bt465.2.2.1 bt465.2.2.2.1 bt465.2.2.2.2.1 bt465.2.2.2.2.2.1 bt465.2.2.2.2.2.2.1 bt465.2.2.2.2.2.2.2.1 bt465.2.2.2.2.2.2.2.2.1 bt465.2.2.2.2.2.2.2.2.2.1 bt465.2.2.2.2.2.2.2.2.2.2.1 bt465.2.2.2.2.2.2.2.2.2.2.2.1 bt465.2.2.2.2.2.2.2.2.2.2.2.2.1 bt465.2.2.2.2.2.2.2.2.2.2.2.2.2.1)) else (weighbridgeref10_About.j0 k t486 (wrap64 (bt465.2.2.2.2.2.2.2.2.2.2.2.2.2.1 + bt487.1)) bt489.1 (bt465.2.2.2.1 == 17) false a3_0 a3_1 a3_2 a3_3 bt465.1 bt465.2.1 bt465.2.2.1 bt465.2.2.2.1 bt465.2.2.2.2.1 bt465.2.2.2.2.2.1 bt465.2.2.2.2.2.2.1 bt465.2.2.2.2.2.2.2.1 bt465.2.2.2.2.2.2.2.2.1 bt465.2.2.2.2.2.2.2.2.2.1 bt465.2.2.2.2.2.2.2.2.2.2.1 bt465.2.2.2.2.2.2.2.2.2.2.2.1 bt465.2.2.2.2.2.2.2.2.2.2.2.2.1 bt465.2.2.2.2.2.2.2.2.2.2.2.2.2.1)))))))))) else (none)) else (none)) else (some ((⟨#[]⟩ : ByteArray), bt465.2.2.2.2.2.2.2.2.2.2.2.2.2.2)))
theorem weighbridgeref10_About.mono_l : ∀ k, (∀ y0 y1 y2 y3 y4 y5 y6 y7 y8 y9 y10 y11 y12 y13 y14 y15 y16 y17 y18 y19 y20 y21 y22, LeO (weighbridgeref10_About.j0 k y0 y1 y2 y3 y4 y5 y6 y7 y8 y9 y10 y11 y12 y13 y14 y15 y16 y17 y18 y19 y20 y21 y22) (weighbridgeref10_About.j0 (k + 1) y0 y1 y2 y3 y4 y5 y6 y7 y8 y9 y10 y11 y12 y13 y14 y15 y16 y17 y18 y19 y20 y21 y22)) ∧ (∀ y0 y1 y2 y3 y4 y5 y6 y7 y8 y9 y10 y11 y12 y13 y14 y15 y16 y17 y18, LeO (weighbridgeref10_About.j1 k y0 y1 y2 y3 y4 y5 y6 y7 y8 y9 y10 y11 y12 y13 y14 y15 y16 y17 y18) (weighbridgeref10_About.j1 (k + 1) y0 y1 y2 y3 y4 y5 y6 y7 y8 y9 y10 y11 y12 y13 y14 y15 y16 y17 y18))
 | 0 => ⟨fun _ _ _ _ _ _ _ _ _ _ _ _ _ _ _ _ _ _ _ _ _ _ _ r h => by simp [weighbridgeref10_About.j0] at h, fun _ _ _ _ _ _ _ _ _ _ _ _ _ _ _ _ _ _ _ r h => by simp [weighbridgeref10_About.j1] at h⟩
 | k + 1 => by
  obtain ⟨ih0, ih1⟩ := weighbridgeref10_About.mono_l k
  refine ⟨?_, ?_⟩
  ·intro y0 y1 y2 y3 y4 y5 y6 y7 y8 y9 y10 y11 y12 y13 y14 y15 y16 y17 y18 y19 y20 y21 y22
   unfold weighbridgeref10_About.j0
   repeat' first
   | (with_reducible exact ih0 _ _ _ _ _ _ _ _ _ _ _ _ _ _ _ _ _ _ _ _ _ _ _)
   | (with_reducible exact ih1 _ _ _ _ _ _ _ _ _ _ _ _ _ _ _ _ _ _ _)
   | (with_reducible exact weighbridgeref10_ready.mono _ _ _ _ _ _ _)
   | (with_reducible exact LeO.refl _)
   | (with_reducible exact LeO.none _)
   | (with_reducible refine LeO.ite ?_ ?_)
   | (with_reducible refine LeO.bind ?_ (fun _ => ?_))
   | exact ih0 _ _ _ _ _ _ _ _ _ _ _ _ _ _ _ _ _ _ _ _ _ _ _
   | exact ih1 _ _ _ _ _ _ _ _ _ _ _ _ _ _ _ _ _ _ _
   | exact weighbridgeref10_ready.mono _ _ _ _ _ _ _
   | exact LeO.none _
   | refine LeO.ite ?_ ?_
   | refine LeO.bind ?_ (fun _ => ?_)
  ·intro y0 y1 y2 y3 y4 y5 y6 y7 y8 y9 y10 y11 y12 y13 y14 y15 y16 y17 y18
   unfold weighbridgeref10_About.j1
   repeat' first
   | (with_reducible exact ih0 _ _ _ _ _ _ _ _ _ _ _ _ _ _ _ _ _ _ _ _ _ _ _)
   | (with_reducible exact ih1 _ _ _ _ _ _ _ _ _ _ _ _ _ _ _ _ _ _ _)
   | (with_reducible exact weighbridgeref10_ready.mono _ _ _ _ _ _ _)
   | (with_reducible exact LeO.refl _)
   | (with_reducible exact LeO.none _)
   | (with_reducible refine LeO.ite ?_ ?_)
   | (with_reducible refine LeO.bind ?_ (fun _ => ?_))
   | exact ih0 _ _ _ _ _ _ _ _ _ _ _ _ _ _ _ _ _ _ _ _ _ _ _
   | exact ih1 _ _ _ _ _ _ _ _ _ _ _ _ _ _ _ _ _ _ _
   | exact weighbridgeref10_ready.mono _ _ _ _ _ _ _
   | exact LeO.none _
   | refine LeO.ite ?_ ?_
   | refine LeO.bind ?_ (fun _ => ?_)
theorem weighbridgeref10_About.mono : ∀ a0 a1 a2 a3 a4 a5 a6 k, LeO (weighbridgeref10_About.f k a0 a1 a2 a3 a4 a5 a6) (weighbridgeref10_About.f (k + 1) a0 a1 a2 a3 a4 a5 a6) := by
 intro a0 a1 a2 a3 a4 a5 a6 k
 obtain ⟨ih0, ih1⟩ := weighbridgeref10_About.mono_l k
 unfold weighbridgeref10_About.f
 repeat' first
   | (with_reducible exact ih0 _ _ _ _ _ _ _ _ _ _ _ _ _ _ _ _ _ _ _ _ _ _ _)
   | (with_reducible exact ih1 _ _ _ _ _ _ _ _ _ _ _ _ _ _ _ _ _ _ _)
   | (with_reducible exact weighbridgeref10_ready.mono _ _ _ _ _ _ _)
   | (with_reducible exact LeO.refl _)
   | (with_reducible exact LeO.none _)
   | (with_reducible refine LeO.ite ?_ ?_)
   | (with_reducible refine LeO.bind ?_ (fun _ => ?_))
   | exact ih0 _ _ _ _ _ _ _ _ _ _ _ _ _ _ _ _ _ _ _ _ _ _ _
   | exact ih1 _ _ _ _ _ _ _ _ _ _ _ _ _ _ _ _ _ _ _
   | exact weighbridgeref10_ready.mono _ _ _ _ _ _ _
   | exact LeO.none _
   | refine LeO.ite ?_ ?_
   | refine LeO.bind ?_ (fun _ => ?_)
def weighbridgeref10_About.T4 : Bool × List (List Nat × List Nat) := (true, [([], []), ([], []), ([1], [1]), ([0, 2], [0, 2]), ([], []), ([4], [4]), ([], []), ([], []), ([3, 5, 6, 7], [3, 5, 6, 7]), ([8, 8, 0, 1, 2, 3, 4, 5, 6, 7, 8], [0, 8])])
def weighbridgeref10_About.B4 : List Nat := [0, 0, 2, 7, 0, 16, 0, 0, 255, 511]
theorem weighbridgeref10_About.tab4 : rtab .any (opsOf Tryz.f8 4) = weighbridgeref10_About.T4 := by kernel_rfl
theorem weighbridgeref10_About.bits4 : waitsOk weighbridgeref10_About.T4.2 weighbridgeref10_About.B4 = true := by kernel_rfl
def weighbridgeref10_About.T6 : Bool × List (List Nat × List Nat) := (true, [([], []), ([], []), ([1], [1]), ([], []), ([], []), ([4], [4]), ([3, 5], [3, 5]), ([], []), ([7], [7]), ([], []), ([6, 8, 9, 6], [6, 8, 9]), ([0, 2, 10, 10], [0, 2, 10]), ([11, 11, 0, 1, 2, 3, 4, 5, 6, 7, 8, 9, 10, 11], [0, 3, 11])])
def weighbridgeref10_About.B6 : List Nat := [0, 0, 2, 0, 0, 16, 56, 0, 128, 0, 1016, 2047, 4095]
theorem weighbridgeref10_About.tab6 : rtab .any (opsOf Tryz.f8 6) = weighbridgeref10_About.T6 := by kernel_rfl
theorem weighbridgeref10_About.bits6 : waitsOk weighbridgeref10_About.T6.2 weighbridgeref10_About.B6 = true := by kernel_rfl
def weighbridgeref10_About.T7 : Bool × List (List Nat × List Nat) := (true, [([], []), ([], []), ([1], [1]), ([], []), ([3], [3]), ([4], [4]), ([0, 2, 5], [0, 2, 5]), ([], []), ([7], [7]), ([], []), ([9], [9]), ([10], [10]), ([6, 8, 11, 6], [6, 8, 11]), ([12, 12, 0, 1, 2, 3, 4, 5, 6, 7, 8, 9, 10, 11, 12], [0, 12])])
def weighbridgeref10_About.B7 : List Nat := [0, 0, 2, 0, 8, 24, 63, 0, 128, 0, 512, 1536, 4095, 8191]
theorem weighbridgeref10_About.tab7 : rtab .any (opsOf Tryz.f8 7) = weighbridgeref10_About.T7 := by kernel_rfl
theorem weighbridgeref10_About.bits7 : waitsOk weighbridgeref10_About.T7.2 weighbridgeref10_About.B7 = true := by kernel_rfl
def weighbridgeref10_About.T13 : Bool × List (List Nat × List Nat) := (true, [([], []), ([], []), ([1], [1]), ([], []), ([0, 2, 3], [0, 2, 3]), ([4], [4]), ([], []), ([6], [6]), ([7], [7]), ([8], [8]), ([], []), ([10], [10]), ([11], [11]), ([5, 9, 12, 4], [5, 9, 12]), ([13, 13, 0, 1, 2, 3, 4, 5, 6, 7, 8, 9, 10, 11, 12, 13], [13])])
def weighbridgeref10_About.B13 : List Nat := [0, 0, 2, 0, 15, 31, 0, 64, 192, 448, 0, 1024, 3072, 8191, 16383]
theorem weighbridgeref10_About.tab13 : rtab .any (opsOf Tryz.f8 13) = weighbridgeref10_About.T13 := by kernel_rfl
theorem weighbridgeref10_About.bits13 : waitsOk weighbridgeref10_About.T13.2 weighbridgeref10_About.B13 = true := by kernel_rfl
def weighbridgeref10_About.T18 : Bool × List (List Nat × List Nat) := (true, [([], []), ([], []), ([1], [1]), ([], []), ([3], [3]), ([0, 2, 4], [0, 2, 4]), ([], []), ([6], [6]), ([7], [7]), ([], []), ([9], [9]), ([5, 8, 10, 5], [5, 8, 10]), ([11, 11, 0, 1, 2, 3, 4, 5, 6, 7, 8, 9, 10, 11], [0, 11])])
def weighbridgeref10_About.B18 : List Nat := [0, 0, 2, 0, 8, 31, 0, 64, 192, 0, 512, 2047, 4095]
theorem weighbridgeref10_About.tab18 : rtab .any (opsOf Tryz.f8 18) = weighbridgeref10_About.T18 := by kernel_rfl
theorem weighbridgeref10_About.bits18 : waitsOk weighbridgeref10_About.T18.2 weighbridgeref10_About.B18 = true := by kernel_rfl
def weighbridgeref10_About.T20 : Bool × List (List Nat × List Nat) := (true, [([], []), ([], []), ([1], [1]), ([2], [2]), ([], []), ([], []), ([5], [5]), ([4, 6], [4, 6]), ([7], [7]), ([8], [8]), ([0, 3, 9, 8], [0, 3, 9]), ([10, 10, 0, 1, 2, 3, 4, 5, 6, 7, 8, 9, 10], [10]), ([11, 0, 1, 2, 3, 4, 5, 6, 7, 8, 9, 10, 11], [])])
def weighbridgeref10_About.B20 : List Nat := [0, 0, 2, 6, 0, 0, 32, 112, 240, 496, 1023, 2047, 4095]
theorem weighbridgeref10_About.tab20 : rtab .any (opsOf Tryz.f8 20) = weighbridgeref10_About.T20 := by kernel_rfl
theorem weighbridgeref10_About.bits20 : waitsOk weighbridgeref10_About.T20.2 weighbridgeref10_About.B20 = true := by kernel_rfl
set_option maxHeartbeats 8000000 in
set_option maxRecDepth 100000 in
theorem weighbridgeref10_About.calls (k : Nat) (a0 : ByteArray) (a1 : Int) (a2 : Int) (a3_0 : Int) (a3_1 : Int) (a3_2 : Int) (a3_3 : Int) (r1 : ByteArray) (r2 : Int) (w : World) (h : weighbridgeref10_About.f k a0 a1 a2 a3_0 a3_1 a3_2 a3_3 = some (r1, r2)) :
  Calls Tryz.prog 8 #[.string a0, .int .u32 a1, .int .u32 a2, .agg #[.int .u32 a3_0, .int .u32 a3_1, .int .i64 a3_2, .int .i64 a3_3]] w fun e w' => e = .returned (.tuple #[.string r1, .int .i64 r2]) ∧ Below w.heap.size w w' := by
 have hu36 := Tryz.underlying36
 have hu65 := Tryz.underlying65
 have hu49 := Tryz.underlying49
 have HB := AA (Below.refl w.heap.size w)
 have H := h
 unfold weighbridgeref10_About.f at H
 clear h
 replace H := OB H
 obtain ⟨⟨t465, t466, t467, t468, t469, t470, t471, t472, t473, t474, t475, t476, t477, t478, t479⟩, A5, H⟩ := H
 (try set_option simprocs false in dsimp only at H)
 go_enter Tryz.func8, Tryz.ntmps8
 go_upto_if 27 with (first | ((with_reducible refine gate_dst (N := 7) rfl ?_); refine bx 7 36 #[.int .u32 a3_0, .int .u32 a3_1, .int .i64 a3_2, .int .i64 a3_3] ?_; intro gb464 hg w18 hbox hb; have BK464 := AA hbox; have GW464 := GS hg HB; have GE464 := GS hg HB; replace HB := BS HB hb; clear hb hbox hg; have hz19 := blk4 BK464.out) | ((with_reducible refine gkx 23 rfl ?_); refine gL 23 Tryz.func23 rfl (weighbridgeref10_ready.calls k a0 2 a3_0 a3_1 a3_2 a3_3 t465 t466 t467 t468 t469 t470 t471 t472 t473 t474 t475 t476 t477 t478 t479 _ A5.out) ?_; rintro w20 hb; (try clear A5); replace BK464 := AA (blk_below (g := gb464) (o := .cells #[.int .u32 a3_0, .int .u32 a3_1, .int .i64 a3_2, .int .i64 a3_3] 36 (0, 0)) (BD BK464) hb); replace HB := BS HB hb; (try clear hb)) | ((with_reducible refine gate_dst (N := 10) rfl ?_); refine bx 10 65 (rr14 0 0 0 0 0 0 0 0 0 0 0 0 0 0) ?_; intro gb480 hg w21 hbox hb; have BK480 := AA hbox; have GW480 := GS hg HB; have GE480 := GS hg HB; replace HB := BS HB hb; have NB464_480 := AA (by rw [hg]; exact Nat.ne_of_lt (blk_lt (g := gb464) (o := .cells #[.int .u32 a3_0, .int .u32 a3_1, .int .i64 a3_2, .int .i64 a3_3] 36 (0, 0)) (BD BK464)) : gb464 ≠ gb480); have NB480_464 := AA (by rw [hg]; exact Nat.ne_of_gt (blk_lt (g := gb464) (o := .cells #[.int .u32 a3_0, .int .u32 a3_1, .int .i64 a3_2, .int .i64 a3_3] 36 (0, 0)) (BD BK464)) : gb480 ≠ gb464); replace BK464 := AA (blk_below (g := gb464) (o := .cells #[.int .u32 a3_0, .int .u32 a3_1, .int .i64 a3_2, .int .i64 a3_3] 36 (0, 0)) (BD BK464) hb); clear hb hbox hg; have hnb22 := NB480_464.out; have hnc22 := NB464_480.out; have hz23 := blk14 BK480.out))
 by_cases c6 : t479 = 0
 rotate_left
 ·rw [if_neg c6] at H
  have c6b0 := BF c6
  have c6b1 := NT c6
  simp only [Option.some.injEq, Prod.mk.injEq] at H
  obtain ⟨rfl, rfl⟩ := H
  go_wp2_with (fail)
  go_ret2
  exact ⟨RT, BW HB⟩
 rw [if_pos c6] at H
 have c6b0 := BT c6
 have c6b1 := NF c6
 clear c6
 replace H := IU H
 obtain ⟨c7b0, c7b1, H⟩ := H
 replace H := IU H
 obtain ⟨c8b0, c8b1, H⟩ := H
 replace H := OB H
 obtain ⟨t481, A9, H⟩ := H
 (try set_option simprocs false in dsimp only at H)
 replace H := OB H
 obtain ⟨t482, A10, H⟩ := H
 (try set_option simprocs false in dsimp only at H)
 replace H := OB H
 obtain ⟨t483, A11, H⟩ := H
 (try set_option simprocs false in dsimp only at H)
 replace H := OB H
 obtain ⟨t484, A12, H⟩ := H
 (try set_option simprocs false in dsimp only at H)
 replace H := OB H
 obtain ⟨t485, A13, H⟩ := H
 (try set_option simprocs false in dsimp only at H)
 replace H := OB H
 obtain ⟨t486, A14, H⟩ := H
 (try set_option simprocs false in dsimp only at H)
 replace H := OB H
 obtain ⟨⟨t487, t488⟩, A15, H⟩ := H
 (try set_option simprocs false in dsimp only at H)
 replace H := OB H
 obtain ⟨⟨t489, t490⟩, A16, H⟩ := H
 (try set_option simprocs false in dsimp only at H)
 have HC17 := AA H
 clear H
 try go_wp2_with (fail)
 obtain ⟨w24, he, hp, hf, hb⟩ := ex14 w21 t465 t466 t467 t468 t469 t470 t471 t472 t473 t474 t475 t476 t477 t478 BK480
 rw [he]
 replace BK464 := FF hf NB464_480 BK464
 replace HB := FB hb GE480 HB
 replace BK480 := hp
 clear he hp hf hb
 replace BK464 := AA (blk_drew BK464.out)
 replace BK480 := AA (blk_drew BK480.out)
 replace HB := AA (below_drew1 HB.out)
 refine start_ (n := 10) (S := fun w' => c14 gb480 t465 t466 t467 t468 t469 t470 t471 t472 t473 t474 t475 t476 t477 t478 w') (ds := []) (bm 10 0x0) (by kernel_rfl) rfl rfl (HCs BK480) (fun hHeld => ?_); refine with_tabW weighbridgeref10_About.tab4 weighbridgeref10_About.bits4 (fun HT_ HW_ => ?_)
 generalize w24.drew = w25 at BK464 BK480 HB hHeld ⊢
 refine pu 0 29 (bm 10 0x1) HT_ ?_
 refine pu 1 30 (bm 10 0x3) HT_ ?_
 refine pu 4 33 (bm 10 0x13) HT_ ?_
 refine pu 6 35 (bm 10 0x53) HT_ ?_
 refine pu 7 36 (bm 10 0xd3) HT_ ?_
 refine tw 2 31 (bm 10 0xd7) HT_ HW_ hHeld ?_
 refine pu 3 32 (bm 10 0xdf) HT_ ?_
 refine tw 5 34 (bm 10 0xff) HT_ HW_ hHeld ?_
 refine oN 8 37 (bm 10 0x1ff) HT_ (fun K hK => ?_)
 refine gR Tryz.func24 rfl rfl (weighbridgeref10_outer.calls (a0.extract 0 (t467 : Int).toNat) t466 a1 a2 t481 _ A9.out) ?_
 rintro w26 hb
 replace BK464 := AA (blk_below (g := gb464) (o := .cells #[.int .u32 a3_0, .int .u32 a3_1, .int .i64 a3_2, .int .i64 a3_3] 36 (0, 0)) (BD BK464) hb)
 replace BK480 := AA (blk_below (g := gb480) (o := .cells (rr14 t465 t466 t467 t468 t469 t470 t471 t472 t473 t474 t475 t476 t477 t478) 65 (0, 0)) (BD BK480) hb)
 replace HB := BS HB hb
 try clear hb
 refine hK.out _ _ (HCs BK480) (fun hHeld => ?_)
 clear hK K
 refine nm 37 ?_
 refine pu 9 0 (bm 10 0x3ff) HT_ ?_
 refine done_ (done_of HT_.out (by kernel_rfl)) ?_
 have hz27 := blk14 BK480.out
 try go_wp2
 replace BK464 := AA (blk_drew BK464.out)
 replace BK480 := AA (blk_drew BK480.out)
 replace HB := AA (below_drew1 HB.out)
 refine start_ (n := 13) (S := fun w' => c14 gb480 t465 t466 t467 t468 t469 t470 t471 t472 t473 t474 t475 t476 t477 t478 w' ∧ w'.cell? ⟨gb464, 0, none⟩ = some (.int .u32 a3_0) ∧ w'.cell? ⟨gb464, 1, none⟩ = some (.int .u32 a3_1) ∧ w'.cell? ⟨gb464, 2, none⟩ = some (.int .i64 a3_2) ∧ w'.cell? ⟨gb464, 3, none⟩ = some (.int .i64 a3_3)) (ds := []) (bm 13 0x0) (by kernel_rfl) rfl rfl (HCt BK480 BK464) (fun hHeld => ?_); refine with_tabW weighbridgeref10_About.tab6 weighbridgeref10_About.bits6 (fun HT_ HW_ => ?_)
 generalize w26.drew = w28 at BK464 BK480 HB hHeld ⊢
 refine pu 0 40 (bm 13 0x1) HT_ ?_
 refine pu 1 41 (bm 13 0x3) HT_ ?_
 refine pu 2 42 (bm 13 0x7) HT_ ?_
 refine pu 3 43 (bm 13 0xf) HT_ ?_
 refine pu 4 44 (bm 13 0x1f) HT_ ?_
 refine pu 5 45 (bm 13 0x3f) HT_ ?_
 refine pu 7 47 (bm 13 0xbf) HT_ ?_
 refine tw 8 48 (bm 13 0x1bf) HT_ HW_ hHeld ?_
 refine tw 9 49 (bm 13 0x3bf) HT_ HW_ hHeld ?_
 refine oN 6 46 (bm 13 0x3ff) HT_ (fun K hK => ?_)
 refine gR Tryz.func27 rfl rfl (weighbridgeref10_num.calls t481 (wrap64 (t477 + 10)) 2 t482 _ A10.out) ?_
 rintro w' ⟨nd, rfl⟩
 refine hK.out _ _ (HCt BK480 BK464) (fun hHeld => ?_)
 clear hK K
 refine nm 46 ?_
 refine oN 10 50 (bm 13 0x7ff) HT_ (fun K hK => ?_)
 refine gR Tryz.func26 rfl rfl (weighbridgeref10_on.calls t482 t468 t469 t470 t471 t472 a3_0 a3_1 a3_2 a3_3 t483 _ A11.out) ?_
 rintro w29 hb
 replace BK464 := AA (blk_below (g := gb464) (o := .cells #[.int .u32 a3_0, .int .u32 a3_1, .int .i64 a3_2, .int .i64 a3_3] 36 (0, 0)) (BD BK464) hb)
 replace BK480 := AA (blk_below (g := gb480) (o := .cells (rr14 t465 t466 t467 t468 t469 t470 t471 t472 t473 t474 t475 t476 t477 t478) 65 (0, 0)) (BD BK480) hb)
 replace HB := BS HB hb
 try clear hb
 refine hK.out _ _ (HCt BK480 BK464) (fun hHeld => ?_)
 clear hK K
 refine nm 50 ?_
 refine oN 11 51 (bm 13 0xfff) HT_ (fun K hK => ?_)
 refine gR Tryz.func25 rfl rfl (weighbridgeref10_with.calls t481 (wrap64 (t477 + 10)) 2 t483 t484 _ A12.out) ?_
 rintro w30 hb
 replace BK464 := AA (blk_below (g := gb464) (o := .cells #[.int .u32 a3_0, .int .u32 a3_1, .int .i64 a3_2, .int .i64 a3_3] 36 (0, 0)) (BD BK464) hb)
 replace BK480 := AA (blk_below (g := gb480) (o := .cells (rr14 t465 t466 t467 t468 t469 t470 t471 t472 t473 t474 t475 t476 t477 t478) 65 (0, 0)) (BD BK480) hb)
 replace HB := BS HB hb
 try clear hb
 refine hK.out _ _ (HCt BK480 BK464) (fun hHeld => ?_)
 clear hK K
 refine nm 51 ?_
 refine pu 12 0 (bm 13 0x1fff) HT_ ?_
 refine done_ (done_of HT_.out (by kernel_rfl)) ?_
 try go_wp2
 replace BK464 := AA (blk_drew BK464.out)
 replace BK480 := AA (blk_drew BK480.out)
 replace HB := AA (below_drew1 HB.out)
 refine start_ (n := 14) (S := fun w' => w'.cell? ⟨gb464, 0, none⟩ = some (.int .u32 a3_0) ∧ w'.cell? ⟨gb464, 1, none⟩ = some (.int .u32 a3_1) ∧ w'.cell? ⟨gb464, 2, none⟩ = some (.int .i64 a3_2) ∧ w'.cell? ⟨gb464, 3, none⟩ = some (.int .i64 a3_3)) (ds := []) (bm 14 0x0) (by kernel_rfl) rfl rfl (HCs BK464) (fun hHeld => ?_); refine with_tabW weighbridgeref10_About.tab7 weighbridgeref10_About.bits7 (fun HT_ HW_ => ?_)
 generalize w30.drew = w31 at BK464 BK480 HB hHeld ⊢
 refine pu 0 52 (bm 14 0x1) HT_ ?_
 refine pu 1 53 (bm 14 0x3) HT_ ?_
 refine pu 2 54 (bm 14 0x7) HT_ ?_
 refine pu 3 55 (bm 14 0xf) HT_ ?_
 refine pu 7 59 (bm 14 0x8f) HT_ ?_
 refine pu 8 60 (bm 14 0x18f) HT_ ?_
 refine pu 9 61 (bm 14 0x38f) HT_ ?_
 refine tw 4 56 (bm 14 0x39f) HT_ HW_ hHeld ?_
 refine pu 5 57 (bm 14 0x3bf) HT_ ?_
 refine tw 10 62 (bm 14 0x7bf) HT_ HW_ hHeld ?_
 refine pu 11 63 (bm 14 0xfbf) HT_ ?_
 refine oN 6 58 (bm 14 0xfff) HT_ (fun K hK => ?_)
 refine gR Tryz.func25 rfl rfl (weighbridgeref10_with.calls t484 (wrap64 (t477 + 12)) 4 (wrap64 (a3_0)) t485 _ A13.out) ?_
 rintro w32 hb
 replace BK464 := AA (blk_below (g := gb464) (o := .cells #[.int .u32 a3_0, .int .u32 a3_1, .int .i64 a3_2, .int .i64 a3_3] 36 (0, 0)) (BD BK464) hb)
 replace BK480 := AA (blk_below (g := gb480) (o := .cells (rr14 t465 t466 t467 t468 t469 t470 t471 t472 t473 t474 t475 t476 t477 t478) 65 (0, 0)) (BD BK480) hb)
 replace HB := BS HB hb
 try clear hb
 refine hK.out _ _ (HCs BK464) (fun hHeld => ?_)
 clear hK K
 refine nm 58 ?_
 refine oN 12 64 (bm 14 0x1fff) HT_ (fun K hK => ?_)
 refine gR Tryz.func25 rfl rfl (weighbridgeref10_with.calls t485 (wrap64 (t477 + 16)) 4 (wrap64 (a3_1)) t486 _ A14.out) ?_
 rintro w33 hb
 replace BK464 := AA (blk_below (g := gb464) (o := .cells #[.int .u32 a3_0, .int .u32 a3_1, .int .i64 a3_2, .int .i64 a3_3] 36 (0, 0)) (BD BK464) hb)
 replace BK480 := AA (blk_below (g := gb480) (o := .cells (rr14 t465 t466 t467 t468 t469 t470 t471 t472 t473 t474 t475 t476 t477 t478) 65 (0, 0)) (BD BK480) hb)
 replace HB := BS HB hb
 try clear hb
 refine hK.out _ _ (HCs BK464) (fun hHeld => ?_)
 clear hK K
 refine nm 64 ?_
 refine pu 13 0 (bm 14 0x3fff) HT_ ?_
 refine done_ (done_of HT_.out (by kernel_rfl)) ?_
 have hz34 := blk14 BK480.out
 go_upto_region 12 with (first | ((with_reducible refine gkx 28 rfl ?_); refine gL 69 Tryz.func28 rfl (weighbridgeref08_Place.calls t468 t487 t488 _ A15.out) ?_; rintro w' ⟨nd, rfl⟩) | ((with_reducible refine gkx 29 rfl ?_); refine gL 79 Tryz.func29 rfl (weighbridgeref01_Get.calls t486 (wrap64 (t478 + t487)) 2 t489 t490 _ A16.out) ?_; rintro w' ⟨nd, rfl⟩))
 (try simp only [Act.put, List.setIfInBounds_toArray, List.set_cons_zero, List.set_cons_succ])
 generalize hub : (t468 == 17) = ub at HC17 ⊢
 go_cut [94] (fun v94 wc => ∃ (kq : Nat) (x94_16 : Bool), v94 = .bool x94_16 ∧ Aside0 (weighbridgeref10_About.j0 kq t486 (wrap64 (t478 + t487)) t489 ub x94_16 a3_0 a3_1 a3_2 a3_3 t465 t466 t467 t468 t469 t470 t471 t472 t473 t474 t475 t476 t477 t478 = some (r1, r2)) ∧ Aside0 (kq ≤ k) ∧ Aside0 (wc.heap[gb464]? = some (.cells #[.int .u32 a3_0, .int .u32 a3_1, .int .i64 a3_2, .int .i64 a3_3] 36 (0, 0))) ∧ Aside0 (wc.heap[gb480]? = some (.cells (rr14 t465 t466 t467 t468 t469 t470 t471 t472 t473 t474 t475 t476 t477 t478) 65 (0, 0))) ∧ Aside0 (Below w.heap.size w wc))
 case first =>
  have H := HC17.out
  clear HC17
  by_cases c35 : t490 = true
  ·subst c35
   first | rw [if_pos rfl] at H | rw [if_pos trivial] at H
   by_cases c36 : t468 = 17
   ·rw [if_pos c36] at H
    have c36b0 := BT c36
    have c36b1 := NF c36
    clear c36
    have cu := hub.symm.trans c36b0
    subst cu
    (first | rw [c36b0] | (simp only [i64_w, i32_w]; rw [c36b0]) | skip)
    have H' := AA H
    clear H
    go_wp2
    go_meet
    case rel => exact ⟨_, (!(t489 == 0)), (by first | rfl | (simp; done) | (congr 2; simp only [ByteArray.size_extract, ByteArray.size_append]; (try have := of_eq_true c7b0); (try have := of_eq_true c8b0); (try unfold wrap64); omega) | (simp only [ByteArray.size_extract, ByteArray.size_append, Nat.sub_zero]; done) | (congr 1; simp only [ByteArray.size_extract, ByteArray.size_append, Nat.sub_zero]; (try have := of_eq_true c7b0); (try have := of_eq_true c8b0); omega) | (simp [*]; done)), H', LR, ⟨BD BK464⟩, ⟨BD BK480⟩, ⟨BW HB⟩⟩
   rw [if_neg c36] at H
   have c36b0 := BF c36
   have c36b1 := NT c36
   have cu := hub.symm.trans c36b0
   subst cu
   (first | rw [c36b0] | (simp only [i64_w, i32_w]; rw [c36b0]) | skip)
   have H' := AA H
   clear H
   go_wp2
   go_meet
   case rel => exact ⟨_, (!false), (by first | rfl | (simp; done) | (congr 2; simp only [ByteArray.size_extract, ByteArray.size_append]; (try have := of_eq_true c7b0); (try have := of_eq_true c8b0); (try unfold wrap64); omega) | (simp only [ByteArray.size_extract, ByteArray.size_append, Nat.sub_zero]; done) | (congr 1; simp only [ByteArray.size_extract, ByteArray.size_append, Nat.sub_zero]; (try have := of_eq_true c7b0); (try have := of_eq_true c8b0); omega) | (simp [*]; done)), H', LR, ⟨BD BK464⟩, ⟨BD BK480⟩, ⟨BW HB⟩⟩
  replace c35 := Bool.eq_false_iff.mpr c35
  subst c35
  replace H := IFN H
  have H' := AA H
  clear H
  go_wp2
  go_meet
  case rel => exact ⟨_, (false), (by first | rfl | (simp; done) | (congr 2; simp only [ByteArray.size_extract, ByteArray.size_append]; (try have := of_eq_true c7b0); (try have := of_eq_true c8b0); (try unfold wrap64); omega) | (simp only [ByteArray.size_extract, ByteArray.size_append, Nat.sub_zero]; done) | (congr 1; simp only [ByteArray.size_extract, ByteArray.size_append, Nat.sub_zero]; (try have := of_eq_true c7b0); (try have := of_eq_true c8b0); omega) | (simp [*]; done)), H', LR, ⟨BD BK464⟩, ⟨BD BK480⟩, ⟨BW HB⟩⟩
 case rest =>
  clear HC17
  try clear c2; try clear p2; try clear c3; try clear c6; try clear c6b0; try clear c6b1; try clear p6; try clear c7; try clear c7b0; try clear c7b1; try clear c8; try clear c8b0; try clear c8b1; try clear c22; try clear c23; try clear c24; try clear c25; try clear c26; try clear c27; try clear c28; try clear c29; try clear c35; try clear c36; try clear c36b0; try clear c36b1; try clear hz19; try clear hz23; try clear hz27; try clear hz34
  obtain ⟨kq, x94_16, rfl, HA, HJ16, BK464, BK480, HB⟩ := hcut
  cases kq with
  | zero => exact absurd HA.out (by simp [weighbridgeref10_About.j0])
  | succ kj16 =>
   have H := HA.out
   clear HA
   simp only [weighbridgeref10_About.j0] at H
   have HC37 := AA H
   clear H
   go_upto_if 94 with (fail)
   go_cut [0] (fun v0 wc => ∃ (kq : Nat) (x0_36 : ByteArray), v0 = .string x0_36 ∧ Aside0 (weighbridgeref10_About.j1 kq x0_36 a3_0 a3_1 a3_2 a3_3 t465 t466 t467 t468 t469 t470 t471 t472 t473 t474 t475 t476 t477 t478 = some (r1, r2)) ∧ Aside0 (kq ≤ kj16) ∧ Aside0 (wc.heap[gb464]? = some (.cells #[.int .u32 a3_0, .int .u32 a3_1, .int .i64 a3_2, .int .i64 a3_3] 36 (0, 0))) ∧ Aside0 (wc.heap[gb480]? = some (.cells (rr14 t465 t466 t467 t468 t469 t470 t471 t472 t473 t474 t475 t476 t477 t478) 65 (0, 0))) ∧ Aside0 (Below w.heap.size w wc))
   case first =>
    have H := HC37.out
    clear HC37
    by_cases c38 : x94_16 = true
    rotate_left
    ·replace c38 := Bool.eq_false_iff.mpr c38
     subst c38
     replace H := IFN H
     have H' := AA H
     clear H
     go_wp2
     go_meet
     case rel => exact ⟨_, (t486), (by first | rfl | (simp; done) | (congr 2; simp only [ByteArray.size_extract, ByteArray.size_append]; (try have := of_eq_true c7b0); (try have := of_eq_true c8b0); (try unfold wrap64); omega) | (simp only [ByteArray.size_extract, ByteArray.size_append, Nat.sub_zero]; done) | (congr 1; simp only [ByteArray.size_extract, ByteArray.size_append, Nat.sub_zero]; (try have := of_eq_true c7b0); (try have := of_eq_true c8b0); omega) | (simp [*]; done)), H', ⟨by have := HJ16.out; first | omega | exact Nat.le_refl _⟩, ⟨BD BK464⟩, ⟨BD BK480⟩, ⟨BW HB⟩⟩
    subst c38
    first | rw [if_pos rfl] at H | rw [if_pos trivial] at H
    replace H := OB H
    obtain ⟨t491, A39, H⟩ := H
    (try set_option simprocs false in dsimp only at H)
    replace H := OB H
    obtain ⟨t492, A40, H⟩ := H
    (try set_option simprocs false in dsimp only at H)
    replace H := OB H
    obtain ⟨t493, A41, H⟩ := H
    (try set_option simprocs false in dsimp only at H)
    by_cases c42 : ub = true
    rotate_left
    ·rw [if_neg c42] at H
     have c42b0 : ub = false := by simpa using c42
     (try (have c42b1 : decide (t468 = 17) = false := by simpa using c42))
     (try (have c42b2 : ub = false := by simpa using c42))
     (try (have c42b3 : ¬ (t468 = 17) := by simpa using c42))
     have cu : ub = false := by simpa using c42
     subst cu
     clear c42
     (first | rw [c42b0] | (simp only [i64_w, i32_w]; rw [c42b0]) | skip)
     replace H := OB H
     obtain ⟨t496, A58, H⟩ := H
     (try set_option simprocs false in dsimp only at H)
     have H' := AA H
     clear H
     try go_wp2
     replace BK464 := AA (blk_drew BK464.out)
     replace BK480 := AA (blk_drew BK480.out)
     replace HB := AA (below_drew1 HB.out)
     refine start_ (n := 15) (S := fun w' => c14 gb480 t465 t466 t467 t468 t469 t470 t471 t472 t473 t474 t475 t476 t477 t478 w' ∧ w'.cell? ⟨gb464, 0, none⟩ = some (.int .u32 a3_0) ∧ w'.cell? ⟨gb464, 1, none⟩ = some (.int .u32 a3_1) ∧ w'.cell? ⟨gb464, 2, none⟩ = some (.int .i64 a3_2) ∧ w'.cell? ⟨gb464, 3, none⟩ = some (.int .i64 a3_3)) (ds := []) (bm 15 0x0) (by kernel_rfl) rfl rfl (HCt BK480 BK464) (fun hHeld => ?_); refine with_tabW weighbridgeref10_About.tab13 weighbridgeref10_About.bits13 (fun HT_ HW_ => ?_)
     generalize wc.drew = w59 at BK464 BK480 HB hHeld ⊢
     refine pu 0 95 (bm 15 0x1) HT_ ?_
     refine pu 1 96 (bm 15 0x3) HT_ ?_
     refine pu 6 101 (bm 15 0x43) HT_ ?_
     refine pu 7 102 (bm 15 0xc3) HT_ ?_
     refine pu 10 105 (bm 15 0x4c3) HT_ ?_
     refine tw 2 97 (bm 15 0x4c7) HT_ HW_ hHeld ?_
     refine tw 3 98 (bm 15 0x4cf) HT_ HW_ hHeld ?_
     refine tw 8 103 (bm 15 0x5cf) HT_ HW_ hHeld ?_
     refine pu 9 104 (bm 15 0x7cf) HT_ ?_
     refine tw 11 106 (bm 15 0xfcf) HT_ HW_ hHeld ?_
     refine pu 12 107 (bm 15 0x1fcf) HT_ ?_
     refine oN 4 99 (bm 15 0x1fdf) HT_ (fun K hK => ?_)
     refine gR Tryz.func26 rfl rfl (weighbridgeref10_on.calls t489 t468 t469 t470 t471 t472 a3_0 a3_1 a3_2 a3_3 t491 _ A39.out) ?_
     rintro w60 hb
     replace BK464 := AA (blk_below (g := gb464) (o := .cells #[.int .u32 a3_0, .int .u32 a3_1, .int .i64 a3_2, .int .i64 a3_3] 36 (0, 0)) (BD BK464) hb)
     replace BK480 := AA (blk_below (g := gb480) (o := .cells (rr14 t465 t466 t467 t468 t469 t470 t471 t472 t473 t474 t475 t476 t477 t478) 65 (0, 0)) (BD BK480) hb)
     replace HB := BS HB hb
     try clear hb
     refine hK.out _ _ (HCt BK480 BK464) (fun hHeld => ?_)
     clear hK K
     refine nm 99 ?_
     refine pu 5 100 (bm 15 0x1fff) HT_ ?_
     refine oN 13 108 (bm 15 0x3fff) HT_ (fun K hK => ?_)
     refine gR Tryz.func30 rfl rfl (weighbridgeref03_Update.calls (IntKind.u16.wrap (t491)) (IntKind.u16.wrap (t471)) (IntKind.u16.wrap (a3_2)) t492 _ A40.out) ?_
     rintro w' ⟨nd, rfl⟩
     refine hK.out _ _ (HCt BK480 BK464) (fun hHeld => ?_)
     clear hK K
     refine nm 108 ?_
     refine pu 14 19 (bm 15 0x7fff) HT_ ?_
     refine done_ (done_of HT_.out (by kernel_rfl)) ?_
     have hnb61 := NB480_464.out
     have hnc61 := NB464_480.out
     have hz62 := blk14 BK480.out
     have hz63 := blk4 BK464.out
     try go_wp2_with (first | ((with_reducible refine gkx 30 rfl ?_); refine gL 117 Tryz.func30 rfl (weighbridgeref03_Update.calls t492 (IntKind.u16.wrap (t472)) (IntKind.u16.wrap (a3_3)) t493 _ A41.out) ?_; rintro w' ⟨nd, rfl⟩) | ((with_reducible refine gkx 25 rfl ?_); refine gL 127 Tryz.func25 rfl (weighbridgeref10_with.calls t486 (wrap64 (t478 + t487)) 2 (wrap64 (t493)) t496 _ A58.out) ?_; rintro w64 hb; (try clear A58); replace BK464 := AA (blk_below (g := gb464) (o := .cells #[.int .u32 a3_0, .int .u32 a3_1, .int .i64 a3_2, .int .i64 a3_3] 36 (0, 0)) (BD BK464) hb); replace BK480 := AA (blk_below (g := gb480) (o := .cells (rr14 t465 t466 t467 t468 t469 t470 t471 t472 t473 t474 t475 t476 t477 t478) 65 (0, 0)) (BD BK480) hb); replace HB := BS HB hb; (try clear hb)))
     go_meet
     case rel => exact ⟨_, (t496), (by first | rfl | (simp; done) | (congr 2; simp only [ByteArray.size_extract, ByteArray.size_append]; (try have := of_eq_true c7b0); (try have := of_eq_true c8b0); (try unfold wrap64); omega) | (simp only [ByteArray.size_extract, ByteArray.size_append, Nat.sub_zero]; done) | (congr 1; simp only [ByteArray.size_extract, ByteArray.size_append, Nat.sub_zero]; (try have := of_eq_true c7b0); (try have := of_eq_true c8b0); omega) | (simp [*]; done)), H', ⟨by have := HJ16.out; first | omega | exact Nat.le_refl _⟩, ⟨BD BK464⟩, ⟨BD BK480⟩, ⟨BW HB⟩⟩
    rw [if_pos c42] at H
    have c42b0 : ub = true := c42
    (try (have c42b1 : decide (t468 = 17) = true := by simpa using c42))
    (try (have c42b2 : ub = true := by simpa using c42))
    have cu : ub = true := by simpa using c42
    subst cu
    clear c42
    (first | rw [c42b0] | (simp only [i64_w, i32_w]; rw [c42b0]) | skip)
    by_cases c43 : t493 = 0
    ·rw [if_pos c43] at H
     have c43b0 := BT c43
     have c43b1 := NF c43
     clear c43
     replace H := OB H
     obtain ⟨t494, A44, H⟩ := H
     (try set_option simprocs false in dsimp only at H)
     have H' := AA H
     clear H
     try go_wp2
     replace BK464 := AA (blk_drew BK464.out)
     replace BK480 := AA (blk_drew BK480.out)
     replace HB := AA (below_drew1 HB.out)
     refine start_ (n := 15) (S := fun w' => c14 gb480 t465 t466 t467 t468 t469 t470 t471 t472 t473 t474 t475 t476 t477 t478 w' ∧ w'.cell? ⟨gb464, 0, none⟩ = some (.int .u32 a3_0) ∧ w'.cell? ⟨gb464, 1, none⟩ = some (.int .u32 a3_1) ∧ w'.cell? ⟨gb464, 2, none⟩ = some (.int .i64 a3_2) ∧ w'.cell? ⟨gb464, 3, none⟩ = some (.int .i64 a3_3)) (ds := []) (bm 15 0x0) (by kernel_rfl) rfl rfl (HCt BK480 BK464) (fun hHeld => ?_); refine with_tabW weighbridgeref10_About.tab13 weighbridgeref10_About.bits13 (fun HT_ HW_ => ?_)
     generalize wc.drew = w45 at BK464 BK480 HB hHeld ⊢
     refine pu 0 95 (bm 15 0x1) HT_ ?_
     refine pu 1 96 (bm 15 0x3) HT_ ?_
     refine pu 6 101 (bm 15 0x43) HT_ ?_
     refine pu 7 102 (bm 15 0xc3) HT_ ?_
     refine pu 10 105 (bm 15 0x4c3) HT_ ?_
     refine tw 2 97 (bm 15 0x4c7) HT_ HW_ hHeld ?_
     refine tw 3 98 (bm 15 0x4cf) HT_ HW_ hHeld ?_
     refine tw 8 103 (bm 15 0x5cf) HT_ HW_ hHeld ?_
     refine pu 9 104 (bm 15 0x7cf) HT_ ?_
     refine tw 11 106 (bm 15 0xfcf) HT_ HW_ hHeld ?_
     refine pu 12 107 (bm 15 0x1fcf) HT_ ?_
     refine oN 4 99 (bm 15 0x1fdf) HT_ (fun K hK => ?_)
     refine gR Tryz.func26 rfl rfl (weighbridgeref10_on.calls t489 t468 t469 t470 t471 t472 a3_0 a3_1 a3_2 a3_3 t491 _ A39.out) ?_
     rintro w46 hb
     replace BK464 := AA (blk_below (g := gb464) (o := .cells #[.int .u32 a3_0, .int .u32 a3_1, .int .i64 a3_2, .int .i64 a3_3] 36 (0, 0)) (BD BK464) hb)
     replace BK480 := AA (blk_below (g := gb480) (o := .cells (rr14 t465 t466 t467 t468 t469 t470 t471 t472 t473 t474 t475 t476 t477 t478) 65 (0, 0)) (BD BK480) hb)
     replace HB := BS HB hb
     try clear hb
     refine hK.out _ _ (HCt BK480 BK464) (fun hHeld => ?_)
     clear hK K
     refine nm 99 ?_
     refine pu 5 100 (bm 15 0x1fff) HT_ ?_
     refine oN 13 108 (bm 15 0x3fff) HT_ (fun K hK => ?_)
     refine gR Tryz.func30 rfl rfl (weighbridgeref03_Update.calls (IntKind.u16.wrap (t491)) (IntKind.u16.wrap (t471)) (IntKind.u16.wrap (a3_2)) t492 _ A40.out) ?_
     rintro w' ⟨nd, rfl⟩
     refine hK.out _ _ (HCt BK480 BK464) (fun hHeld => ?_)
     clear hK K
     refine nm 108 ?_
     refine pu 14 19 (bm 15 0x7fff) HT_ ?_
     refine done_ (done_of HT_.out (by kernel_rfl)) ?_
     have hnb47 := NB480_464.out
     have hnc47 := NB464_480.out
     have hz48 := blk14 BK480.out
     have hz49 := blk4 BK464.out
     try go_wp2_with (first | ((with_reducible refine gkx 30 rfl ?_); refine gL 117 Tryz.func30 rfl (weighbridgeref03_Update.calls t492 (IntKind.u16.wrap (t472)) (IntKind.u16.wrap (a3_3)) t493 _ A41.out) ?_; rintro w' ⟨nd, rfl⟩) | ((with_reducible refine gkx 25 rfl ?_); refine gL 127 Tryz.func25 rfl (weighbridgeref10_with.calls t486 (wrap64 (t478 + t487)) 2 65535 t494 _ A44.out) ?_; rintro w50 hb; (try clear A44); replace BK464 := AA (blk_below (g := gb464) (o := .cells #[.int .u32 a3_0, .int .u32 a3_1, .int .i64 a3_2, .int .i64 a3_3] 36 (0, 0)) (BD BK464) hb); replace BK480 := AA (blk_below (g := gb480) (o := .cells (rr14 t465 t466 t467 t468 t469 t470 t471 t472 t473 t474 t475 t476 t477 t478) 65 (0, 0)) (BD BK480) hb); replace HB := BS HB hb; (try clear hb)))
     go_meet
     case rel => exact ⟨_, (t494), (by first | rfl | (simp; done) | (congr 2; simp only [ByteArray.size_extract, ByteArray.size_append]; (try have := of_eq_true c7b0); (try have := of_eq_true c8b0); (try unfold wrap64); omega) | (simp only [ByteArray.size_extract, ByteArray.size_append, Nat.sub_zero]; done) | (congr 1; simp only [ByteArray.size_extract, ByteArray.size_append, Nat.sub_zero]; (try have := of_eq_true c7b0); (try have := of_eq_true c8b0); omega) | (simp [*]; done)), H', ⟨by have := HJ16.out; first | omega | exact Nat.le_refl _⟩, ⟨BD BK464⟩, ⟨BD BK480⟩, ⟨BW HB⟩⟩
    rw [if_neg c43] at H
    have c43b0 := BF c43
    have c43b1 := NT c43
    replace H := OB H
    obtain ⟨t495, A51, H⟩ := H
    (try set_option simprocs false in dsimp only at H)
    have H' := AA H
    clear H
    try go_wp2
    replace BK464 := AA (blk_drew BK464.out)
    replace BK480 := AA (blk_drew BK480.out)
    replace HB := AA (below_drew1 HB.out)
    refine start_ (n := 15) (S := fun w' => c14 gb480 t465 t466 t467 t468 t469 t470 t471 t472 t473 t474 t475 t476 t477 t478 w' ∧ w'.cell? ⟨gb464, 0, none⟩ = some (.int .u32 a3_0) ∧ w'.cell? ⟨gb464, 1, none⟩ = some (.int .u32 a3_1) ∧ w'.cell? ⟨gb464, 2, none⟩ = some (.int .i64 a3_2) ∧ w'.cell? ⟨gb464, 3, none⟩ = some (.int .i64 a3_3)) (ds := []) (bm 15 0x0) (by kernel_rfl) rfl rfl (HCt BK480 BK464) (fun hHeld => ?_); refine with_tabW weighbridgeref10_About.tab13 weighbridgeref10_About.bits13 (fun HT_ HW_ => ?_)
    generalize wc.drew = w52 at BK464 BK480 HB hHeld ⊢
    refine pu 0 95 (bm 15 0x1) HT_ ?_
    refine pu 1 96 (bm 15 0x3) HT_ ?_
    refine pu 6 101 (bm 15 0x43) HT_ ?_
    refine pu 7 102 (bm 15 0xc3) HT_ ?_
    refine pu 10 105 (bm 15 0x4c3) HT_ ?_
    refine tw 2 97 (bm 15 0x4c7) HT_ HW_ hHeld ?_
    refine tw 3 98 (bm 15 0x4cf) HT_ HW_ hHeld ?_
    refine tw 8 103 (bm 15 0x5cf) HT_ HW_ hHeld ?_
    refine pu 9 104 (bm 15 0x7cf) HT_ ?_
    refine tw 11 106 (bm 15 0xfcf) HT_ HW_ hHeld ?_
    refine pu 12 107 (bm 15 0x1fcf) HT_ ?_
    refine oN 4 99 (bm 15 0x1fdf) HT_ (fun K hK => ?_)
    refine gR Tryz.func26 rfl rfl (weighbridgeref10_on.calls t489 t468 t469 t470 t471 t472 a3_0 a3_1 a3_2 a3_3 t491 _ A39.out) ?_
    rintro w53 hb
    replace BK464 := AA (blk_below (g := gb464) (o := .cells #[.int .u32 a3_0, .int .u32 a3_1, .int .i64 a3_2, .int .i64 a3_3] 36 (0, 0)) (BD BK464) hb)
    replace BK480 := AA (blk_below (g := gb480) (o := .cells (rr14 t465 t466 t467 t468 t469 t470 t471 t472 t473 t474 t475 t476 t477 t478) 65 (0, 0)) (BD BK480) hb)
    replace HB := BS HB hb
    try clear hb
    refine hK.out _ _ (HCt BK480 BK464) (fun hHeld => ?_)
    clear hK K
    refine nm 99 ?_
    refine pu 5 100 (bm 15 0x1fff) HT_ ?_
    refine oN 13 108 (bm 15 0x3fff) HT_ (fun K hK => ?_)
    refine gR Tryz.func30 rfl rfl (weighbridgeref03_Update.calls (IntKind.u16.wrap (t491)) (IntKind.u16.wrap (t471)) (IntKind.u16.wrap (a3_2)) t492 _ A40.out) ?_
    rintro w' ⟨nd, rfl⟩
    refine hK.out _ _ (HCt BK480 BK464) (fun hHeld => ?_)
    clear hK K
    refine nm 108 ?_
    refine pu 14 19 (bm 15 0x7fff) HT_ ?_
    refine done_ (done_of HT_.out (by kernel_rfl)) ?_
    have hnb54 := NB480_464.out
    have hnc54 := NB464_480.out
    have hz55 := blk14 BK480.out
    have hz56 := blk4 BK464.out
    try go_wp2_with (first | ((with_reducible refine gkx 30 rfl ?_); refine gL 117 Tryz.func30 rfl (weighbridgeref03_Update.calls t492 (IntKind.u16.wrap (t472)) (IntKind.u16.wrap (a3_3)) t493 _ A41.out) ?_; rintro w' ⟨nd, rfl⟩) | ((with_reducible refine gkx 25 rfl ?_); refine gL 127 Tryz.func25 rfl (weighbridgeref10_with.calls t486 (wrap64 (t478 + t487)) 2 (wrap64 (t493)) t495 _ A51.out) ?_; rintro w57 hb; (try clear A51); replace BK464 := AA (blk_below (g := gb464) (o := .cells #[.int .u32 a3_0, .int .u32 a3_1, .int .i64 a3_2, .int .i64 a3_3] 36 (0, 0)) (BD BK464) hb); replace BK480 := AA (blk_below (g := gb480) (o := .cells (rr14 t465 t466 t467 t468 t469 t470 t471 t472 t473 t474 t475 t476 t477 t478) 65 (0, 0)) (BD BK480) hb); replace HB := BS HB hb; (try clear hb)))
    go_meet
    case rel => exact ⟨_, (t495), (by first | rfl | (simp; done) | (congr 2; simp only [ByteArray.size_extract, ByteArray.size_append]; (try have := of_eq_true c7b0); (try have := of_eq_true c8b0); (try unfold wrap64); omega) | (simp only [ByteArray.size_extract, ByteArray.size_append, Nat.sub_zero]; done) | (congr 1; simp only [ByteArray.size_extract, ByteArray.size_append, Nat.sub_zero]; (try have := of_eq_true c7b0); (try have := of_eq_true c8b0); omega) | (simp [*]; done)), H', ⟨by have := HJ16.out; first | omega | exact Nat.le_refl _⟩, ⟨BD BK464⟩, ⟨BD BK480⟩, ⟨BW HB⟩⟩
   case rest =>
    clear HC37
    try clear c2; try clear p2; try clear c3; try clear c4; try clear c5; try clear c6; try clear p6; try clear c25; try clear c26; try clear c30; try clear c38; try clear c42; try clear c42b0; try clear c42b1; try clear c42b2; try clear c43; try clear c43b0; try clear c43b1; try clear c47; try clear c54; try clear c61; try clear p64; try clear hz48; try clear hz49; try clear hz55; try clear hz56; try clear hz62; try clear hz63
    obtain ⟨kq, x0_36, rfl, HA, HJ36, BK464, BK480, HB⟩ := hcut
    cases kq with
    | zero => exact absurd HA.out (by simp [weighbridgeref10_About.j1])
    | succ kj36 =>
     have H := HA.out
     clear HA
     simp only [weighbridgeref10_About.j1] at H
     replace H := OB H
     obtain ⟨t497, A65, H⟩ := H
     (try set_option simprocs false in dsimp only at H)
     replace H := OB H
     obtain ⟨t498, A66, H⟩ := H
     (try set_option simprocs false in dsimp only at H)
     replace H := OB H
     obtain ⟨t499, A67, H⟩ := H
     (try set_option simprocs false in dsimp only at H)
     replace H := IU H
     obtain ⟨c68b0, c68b1, H⟩ := H
     replace H := IU H
     obtain ⟨c69b0, c69b1, H⟩ := H
     replace H := OB H
     obtain ⟨t500, A70, H⟩ := H
     (try set_option simprocs false in dsimp only at H)
     replace H := OB H
     obtain ⟨t501, A71, H⟩ := H
     (try set_option simprocs false in dsimp only at H)
     simp only [Option.some.injEq, Prod.mk.injEq] at H
     obtain ⟨rfl, rfl⟩ := H
     try go_wp2
     replace BK464 := AA (blk_drew BK464.out)
     replace BK480 := AA (blk_drew BK480.out)
     replace HB := AA (below_drew1 HB.out)
     refine start_ (n := 13) (S := fun w' => c14 gb480 t465 t466 t467 t468 t469 t470 t471 t472 t473 t474 t475 t476 t477 t478 w' ∧ w'.cell? ⟨gb464, 0, none⟩ = some (.int .u32 a3_0) ∧ w'.cell? ⟨gb464, 1, none⟩ = some (.int .u32 a3_1) ∧ w'.cell? ⟨gb464, 2, none⟩ = some (.int .i64 a3_2) ∧ w'.cell? ⟨gb464, 3, none⟩ = some (.int .i64 a3_3)) (ds := []) (bm 13 0x0) (by kernel_rfl) rfl rfl (HCt BK480 BK464) (fun hHeld => ?_); refine with_tabW weighbridgeref10_About.tab18 weighbridgeref10_About.bits18 (fun HT_ HW_ => ?_)
     generalize wc.drew = w72 at BK464 BK480 HB hHeld ⊢
     refine pu 0 128 (bm 13 0x1) HT_ ?_
     refine pu 1 129 (bm 13 0x3) HT_ ?_
     refine pu 3 131 (bm 13 0xb) HT_ ?_
     refine pu 6 134 (bm 13 0x4b) HT_ ?_
     refine pu 9 137 (bm 13 0x24b) HT_ ?_
     refine tw 2 130 (bm 13 0x24f) HT_ HW_ hHeld ?_
     refine tw 4 132 (bm 13 0x25f) HT_ HW_ hHeld ?_
     refine tw 7 135 (bm 13 0x2df) HT_ HW_ hHeld ?_
     refine pu 8 136 (bm 13 0x3df) HT_ ?_
     refine tw 10 138 (bm 13 0x7df) HT_ HW_ hHeld ?_
     refine oN 5 133 (bm 13 0x7ff) HT_ (fun K hK => ?_)
     refine gR Tryz.func25 rfl rfl (weighbridgeref10_with.calls x0_36 t478 2 a3_2 t497 _ A65.out) ?_
     rintro w73 hb
     replace BK464 := AA (blk_below (g := gb464) (o := .cells #[.int .u32 a3_0, .int .u32 a3_1, .int .i64 a3_2, .int .i64 a3_3] 36 (0, 0)) (BD BK464) hb)
     replace BK480 := AA (blk_below (g := gb480) (o := .cells (rr14 t465 t466 t467 t468 t469 t470 t471 t472 t473 t474 t475 t476 t477 t478) 65 (0, 0)) (BD BK480) hb)
     replace HB := BS HB hb
     try clear hb
     refine hK.out _ _ (HCt BK480 BK464) (fun hHeld => ?_)
     clear hK K
     refine nm 133 ?_
     refine oN 11 139 (bm 13 0xfff) HT_ (fun K hK => ?_)
     refine gR Tryz.func25 rfl rfl (weighbridgeref10_with.calls t497 (wrap64 (t478 + 2)) 2 a3_3 t498 _ A66.out) ?_
     rintro w74 hb
     replace BK464 := AA (blk_below (g := gb464) (o := .cells #[.int .u32 a3_0, .int .u32 a3_1, .int .i64 a3_2, .int .i64 a3_3] 36 (0, 0)) (BD BK464) hb)
     replace BK480 := AA (blk_below (g := gb480) (o := .cells (rr14 t465 t466 t467 t468 t469 t470 t471 t472 t473 t474 t475 t476 t477 t478) 65 (0, 0)) (BD BK480) hb)
     replace HB := BS HB hb
     try clear hb
     refine hK.out _ _ (HCt BK480 BK464) (fun hHeld => ?_)
     clear hK K
     refine nm 139 ?_
     refine pu 12 0 (bm 13 0x1fff) HT_ ?_
     refine done_ (done_of HT_.out (by kernel_rfl)) ?_
     have hnb75 := NB480_464.out
     have hnc75 := NB464_480.out
     have hz76 := blk14 BK480.out
     try go_wp2_with (first | ((with_reducible refine gkx 25 rfl ?_); refine gL 144 Tryz.func25 rfl (weighbridgeref10_with.calls t498 (wrap64 (t466 + 2)) 2 0 t499 _ A67.out) ?_; rintro w77 hb; (try clear A67); replace BK464 := AA (blk_below (g := gb464) (o := .cells #[.int .u32 a3_0, .int .u32 a3_1, .int .i64 a3_2, .int .i64 a3_3] 36 (0, 0)) (BD BK464) hb); replace BK480 := AA (blk_below (g := gb480) (o := .cells (rr14 t465 t466 t467 t468 t469 t470 t471 t472 t473 t474 t475 t476 t477 t478) 65 (0, 0)) (BD BK480) hb); replace HB := BS HB hb; (try clear hb)))
     replace BK464 := AA (blk_drew BK464.out)
     replace BK480 := AA (blk_drew BK480.out)
     replace HB := AA (below_drew1 HB.out)
     refine start_ (n := 13) (S := fun w' => c14 gb480 t465 t466 t467 t468 t469 t470 t471 t472 t473 t474 t475 t476 t477 t478 w') (ds := []) (bm 13 0x0) (by kernel_rfl) rfl rfl (HCs BK480) (fun hHeld => ?_); refine with_tabW weighbridgeref10_About.tab20 weighbridgeref10_About.bits20 (fun HT_ HW_ => ?_)
     generalize w77.drew = w78 at BK464 BK480 HB hHeld ⊢
     refine pu 0 145 (bm 13 0x1) HT_ ?_
     refine pu 1 146 (bm 13 0x3) HT_ ?_
     refine pu 4 149 (bm 13 0x13) HT_ ?_
     refine pu 5 150 (bm 13 0x33) HT_ ?_
     refine tw 2 147 (bm 13 0x37) HT_ HW_ hHeld ?_
     refine pu 3 148 (bm 13 0x3f) HT_ ?_
     refine tw 6 151 (bm 13 0x7f) HT_ HW_ hHeld ?_
     refine pu 7 152 (bm 13 0xff) HT_ ?_
     refine oN 8 153 (bm 13 0x1ff) HT_ (fun K hK => ?_)
     refine gR Tryz.func31 rfl rfl (weighbridgeref03_Check.calls (t499.extract (t466 : Int).toNat t499.size) t500 _ A70.out) ?_
     rintro w79 hb
     replace BK464 := AA (blk_below (g := gb464) (o := .cells #[.int .u32 a3_0, .int .u32 a3_1, .int .i64 a3_2, .int .i64 a3_3] 36 (0, 0)) (BD BK464) hb)
     replace BK480 := AA (blk_below (g := gb480) (o := .cells (rr14 t465 t466 t467 t468 t469 t470 t471 t472 t473 t474 t475 t476 t477 t478) 65 (0, 0)) (BD BK480) hb)
     replace HB := BS HB hb
     try clear hb
     refine hK.out _ _ (HCs BK480) (fun hHeld => ?_)
     clear hK K
     refine nm 153 ?_
     refine pu 9 154 (bm 13 0x3ff) HT_ ?_
     refine oN 10 155 (bm 13 0x7ff) HT_ (fun K hK => ?_)
     refine gR Tryz.func25 rfl rfl (weighbridgeref10_with.calls t499 (wrap64 (t466 + 2)) 2 (wrap64 (t500)) t501 _ A71.out) ?_
     rintro w80 hb
     replace BK464 := AA (blk_below (g := gb464) (o := .cells #[.int .u32 a3_0, .int .u32 a3_1, .int .i64 a3_2, .int .i64 a3_3] 36 (0, 0)) (BD BK464) hb)
     replace BK480 := AA (blk_below (g := gb480) (o := .cells (rr14 t465 t466 t467 t468 t469 t470 t471 t472 t473 t474 t475 t476 t477 t478) 65 (0, 0)) (BD BK480) hb)
     replace HB := BS HB hb
     try clear hb
     refine hK.out _ _ (HCs BK480) (fun hHeld => ?_)
     clear hK K
     refine nm 155 ?_
     refine pu 11 8 (bm 13 0xfff) HT_ ?_
     refine pu 12 9 (bm 13 0x1fff) HT_ ?_
     refine done_ (done_of HT_.out (by kernel_rfl)) ?_
     try go_wp2
     go_ret2
     exact ⟨RT, BW HB⟩

end Go.Proofs.YtfnjohklmpiboaaGreat.Pr
