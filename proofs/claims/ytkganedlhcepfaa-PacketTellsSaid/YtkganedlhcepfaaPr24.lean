-- trimmed by trims.py
-- Written by a program of the session (wip/tools) out of the translation, over the kit's print; with pieces of the session's own.
import Derived.Test.YtkganedlhcepfaaPr0
import Derived.Test.YtkganedlhcepfaaPr1
import Derived.Test.YtkganedlhcepfaaPr9
import Derived.Test.YtkganedlhcepfaaPr18
namespace Go.Proofs.Ytkganedlhcepfaa.Pr
open Go.RowKit Go.Proofs.YtkganedlhcepfaaW.PrintWords Go.Proofs.YtkganedlhcepfaaW.PrintLast Go.Proofs.YtkganedlhcepfaaW.PrintMore
attribute [local go_sem] max2_int min2_int max_two min_two max_three min_three max_four min_four   -- for this text's walks alone
set_option linter.unusedVariables false
set_option linter.unusedSimpArgs false
open Go.Proofs.Ytkganedlhcepfaa.Sp
attribute [local go_sem high] eqA30
/-! ### weighbridgelaw09_PacketTells: function 4 -/
mutual
def weighbridgelaw09_PacketTells.j0 : Nat → Bool → ByteArray → Int → Int → Int → Int → Int → Int → Int → Int → ByteArray → Bool → Int → Int → Int → Int → Int → Int → Int → Int → Int → Int → Int → Int → Int → Int → Int → Int → Int → Int → Int → Int → Int → Option (Bool)
 | 0, _, _, _, _, _, _, _, _, _, _, _, _, _, _, _, _, _, _, _, _, _, _, _, _, _, _, _, _, _, _, _, _, _ => none
 | k + 1, x5, x6, x8, x515000, x515001, x515002, x515003, x515004, x515005, x515006, x515007, x515008, x515009, x515010, x533000, x533001, x533002, x533003, x533004, x533005, x533006, x533007, x533008, x533009, x533010, x533011, x533012, x533013, x534000, x534001, x534002, x534003, x534004 => if x8 = 0 then (if (!(x533003 == x534000) || (!(x533004 == x534001) || (!(x533005 == x534002) || (!(x533006 == x534003) || (!(x533007 == x534004)))))) = true then (weighbridgelaw09_PacketTells.j1 k x5 true x515000 x515001 x515002 x515003 x515004 x515005 x515006 x515007 x515008 x515009 x515010 x533000 x533001 x533002 x533003 x533004 x533005 x533006 x533007 x533008 x533009 x533010 x533011 x533012 x533013) else (if x533002 = (x6.size : Int) then (if x533001 = 20 then (weighbridgelaw09_PacketTells.j1 k x5 (x533009 != (wrap64 (x515006))) x515000 x515001 x515002 x515003 x515004 x515005 x515006 x515007 x515008 x515009 x515010 x533000 x533001 x533002 x533003 x533004 x533005 x533006 x533007 x533008 x533009 x533010 x533011 x533012 x533013) else (weighbridgelaw09_PacketTells.j1 k x5 true x515000 x515001 x515002 x515003 x515004 x515005 x515006 x515007 x515008 x515009 x515010 x533000 x533001 x533002 x533003 x533004 x533005 x533006 x533007 x533008 x533009 x533010 x533011 x533012 x533013)) else (weighbridgelaw09_PacketTells.j1 k x5 true x515000 x515001 x515002 x515003 x515004 x515005 x515006 x515007 x515008 x515009 x515010 x533000 x533001 x533002 x533003 x533004 x533005 x533006 x533007 x533008 x533009 x533010 x533011 x533012 x533013))) else (weighbridgelaw09_PacketTells.j1 k x5 true x515000 x515001 x515002 x515003 x515004 x515005 x515006 x515007 x515008 x515009 x515010 x533000 x533001 x533002 x533003 x533004 x533005 x533006 x533007 x533008 x533009 x533010 x533011 x533012 x533013)
def weighbridgelaw09_PacketTells.j1 : Nat → Bool → Bool → Int → Int → Int → Int → Int → Int → Int → ByteArray → Bool → Int → Int → Int → Int → Int → Int → Int → Int → Int → Int → Int → Int → Int → Int → Int → Int → Option (Bool)
 | 0, _, _, _, _, _, _, _, _, _, _, _, _, _, _, _, _, _, _, _, _, _, _, _, _, _, _, _ => none
 | k + 1, x5, x65, x515000, x515001, x515002, x515003, x515004, x515005, x515006, x515007, x515008, x515009, x515010, x533000, x533001, x533002, x533003, x533004, x533005, x533006, x533007, x533008, x533009, x533010, x533011, x533012, x533013 => if x65 = true then (some false) else (if (Int.tmod x515000 4) < 2 then (if x5 = true then (if x533000 = 1 then (if x533010 = x515001 then (if x533011 = x515002 then (if x533012 = 0 then (if (Int.tmod x515000 2) = 1 then (some true) else (some (x533008 == (wrap64 (Int.tmod x515005 64))))) else (some false)) else (some false)) else (some false)) else (some false)) else (some false)) else (if x5 = true then (if x533000 = 2 then (if x533010 = x515009 then (if x533011 = x515010 then (if x533012 = 28 then (if x533013 = 48 then (some (x533008 == 0)) else (some false)) else (some false)) else (some false)) else (some false)) else (some false)) else (some false)))
end
def weighbridgelaw09_PacketTells.f (k : Nat) (a0_0 : Int) (a0_1 : Int) (a0_2 : Int) (a0_3 : Int) (a0_4 : Int) (a0_5 : Int) (a0_6 : Int) (a0_7 : ByteArray) (a0_8 : Bool) (a0_9 : Int) (a0_10 : Int) (a1 : ByteArray) : Option (Bool) := (weighbridgelaw09_examples.f).bind fun t515 => (if t515 = true then ((weighbridgelaw09_Make_frame.f a0_0 a0_1 a0_2 a0_3 a0_4 a0_5 a0_6 a0_7 a0_8 a0_9 a0_10).bind fun t516 => (if t516.size + a1.size ≤ 9223372036854775807 then ((packet_Classify.f (t516 ++ a1)).bind fun bt517 => (if (Int.tmod a0_0 2) = 1 then (weighbridgelaw09_PacketTells.j0 k t515 t516 bt517.2.2.2.2.2.2.2.2.2.2.2.2.2.2 a0_0 a0_1 a0_2 a0_3 a0_4 a0_5 a0_6 a0_7 a0_8 a0_9 a0_10 bt517.1 bt517.2.1 bt517.2.2.1 bt517.2.2.2.1 bt517.2.2.2.2.1 bt517.2.2.2.2.2.1 bt517.2.2.2.2.2.2.1 bt517.2.2.2.2.2.2.2.1 bt517.2.2.2.2.2.2.2.2.1 bt517.2.2.2.2.2.2.2.2.2.1 bt517.2.2.2.2.2.2.2.2.2.2.1 bt517.2.2.2.2.2.2.2.2.2.2.2.1 bt517.2.2.2.2.2.2.2.2.2.2.2.2.1 bt517.2.2.2.2.2.2.2.2.2.2.2.2.2.1 17 a0_1 a0_2 (wrap64 (a0_3)) (wrap64 (a0_4))) else (weighbridgelaw09_PacketTells.j0 k t515 t516 bt517.2.2.2.2.2.2.2.2.2.2.2.2.2.2 a0_0 a0_1 a0_2 a0_3 a0_4 a0_5 a0_6 a0_7 a0_8 a0_9 a0_10 bt517.1 bt517.2.1 bt517.2.2.1 bt517.2.2.2.1 bt517.2.2.2.2.1 bt517.2.2.2.2.2.1 bt517.2.2.2.2.2.2.1 bt517.2.2.2.2.2.2.2.1 bt517.2.2.2.2.2.2.2.2.1 bt517.2.2.2.2.2.2.2.2.2.1 bt517.2.2.2.2.2.2.2.2.2.2.1 bt517.2.2.2.2.2.2.2.2.2.2.2.1 bt517.2.2.2.2.2.2.2.2.2.2.2.2.1 bt517.2.2.2.2.2.2.2.2.2.2.2.2.2.1 6 a0_1 a0_2 (wrap64 (a0_3)) (wrap64 (a0_4))))) else (none))) else (some false))
theorem weighbridgelaw09_PacketTells.mono_l : ∀ k, (∀ y0 y1 y2 y3 y4 y5 y6 y7 y8 y9 y10 y11 y12 y13 y14 y15 y16 y17 y18 y19 y20 y21 y22 y23 y24 y25 y26 y27 y28 y29 y30 y31 y32, LeO (weighbridgelaw09_PacketTells.j0 k y0 y1 y2 y3 y4 y5 y6 y7 y8 y9 y10 y11 y12 y13 y14 y15 y16 y17 y18 y19 y20 y21 y22 y23 y24 y25 y26 y27 y28 y29 y30 y31 y32) (weighbridgelaw09_PacketTells.j0 (k + 1) y0 y1 y2 y3 y4 y5 y6 y7 y8 y9 y10 y11 y12 y13 y14 y15 y16 y17 y18 y19 y20 y21 y22 y23 y24 y25 y26 y27 y28 y29 y30 y31 y32)) ∧ (∀ y0 y1 y2 y3 y4 y5 y6 y7 y8 y9 y10 y11 y12 y13 y14 y15 y16 y17 y18 y19 y20 y21 y22 y23 y24 y25 y26, LeO (weighbridgelaw09_PacketTells.j1 k y0 y1 y2 y3 y4 y5 y6 y7 y8 y9 y10 y11 y12 y13 y14 y15 y16 y17 y18 y19 y20 y21 y22 y23 y24 y25 y26) (weighbridgelaw09_PacketTells.j1 (k + 1) y0 y1 y2 y3 y4 y5 y6 y7 y8 y9 y10 y11 y12 y13 y14 y15 y16 y17 y18 y19 y20 y21 y22 y23 y24 y25 y26))
 | 0 => ⟨fun _ _ _ _ _ _ _ _ _ _ _ _ _ _ _ _ _ _ _ _ _ _ _ _ _ _ _ _ _ _ _ _ _ r h => by simp [weighbridgelaw09_PacketTells.j0] at h, fun _ _ _ _ _ _ _ _ _ _ _ _ _ _ _ _ _ _ _ _ _ _ _ _ _ _ _ r h => by simp [weighbridgelaw09_PacketTells.j1] at h⟩
 | k + 1 => by
  obtain ⟨ih0, ih1⟩ := weighbridgelaw09_PacketTells.mono_l k
  refine ⟨?_, ?_⟩
  ·intro y0 y1 y2 y3 y4 y5 y6 y7 y8 y9 y10 y11 y12 y13 y14 y15 y16 y17 y18 y19 y20 y21 y22 y23 y24 y25 y26 y27 y28 y29 y30 y31 y32
   unfold weighbridgelaw09_PacketTells.j0
   repeat' first
   | (with_reducible exact ih0 _ _ _ _ _ _ _ _ _ _ _ _ _ _ _ _ _ _ _ _ _ _ _ _ _ _ _ _ _ _ _ _ _)
   | (with_reducible exact ih1 _ _ _ _ _ _ _ _ _ _ _ _ _ _ _ _ _ _ _ _ _ _ _ _ _ _ _)
   | (with_reducible exact LeO.refl _)
   | (with_reducible exact LeO.none _)
   | (with_reducible refine LeO.ite ?_ ?_)
   | (with_reducible refine LeO.bind ?_ (fun _ => ?_))
   | exact ih0 _ _ _ _ _ _ _ _ _ _ _ _ _ _ _ _ _ _ _ _ _ _ _ _ _ _ _ _ _ _ _ _ _
   | exact ih1 _ _ _ _ _ _ _ _ _ _ _ _ _ _ _ _ _ _ _ _ _ _ _ _ _ _ _
   | exact LeO.none _
   | refine LeO.ite ?_ ?_
   | refine LeO.bind ?_ (fun _ => ?_)
  ·intro y0 y1 y2 y3 y4 y5 y6 y7 y8 y9 y10 y11 y12 y13 y14 y15 y16 y17 y18 y19 y20 y21 y22 y23 y24 y25 y26
   unfold weighbridgelaw09_PacketTells.j1
   repeat' first
   | (with_reducible exact ih0 _ _ _ _ _ _ _ _ _ _ _ _ _ _ _ _ _ _ _ _ _ _ _ _ _ _ _ _ _ _ _ _ _)
   | (with_reducible exact ih1 _ _ _ _ _ _ _ _ _ _ _ _ _ _ _ _ _ _ _ _ _ _ _ _ _ _ _)
   | (with_reducible exact LeO.refl _)
   | (with_reducible exact LeO.none _)
   | (with_reducible refine LeO.ite ?_ ?_)
   | (with_reducible refine LeO.bind ?_ (fun _ => ?_))
   | exact ih0 _ _ _ _ _ _ _ _ _ _ _ _ _ _ _ _ _ _ _ _ _ _ _ _ _ _ _ _ _ _ _ _ _
   | exact ih1 _ _ _ _ _ _ _ _ _ _ _ _ _ _ _ _ _ _ _ _ _ _ _ _ _ _ _
   | exact LeO.none _
   | refine LeO.ite ?_ ?_
   | refine LeO.bind ?_ (fun _ => ?_)
theorem weighbridgelaw09_PacketTells.mono : ∀ a0 a1 a2 a3 a4 a5 a6 a7 a8 a9 a10 a11 k, LeO (weighbridgelaw09_PacketTells.f k a0 a1 a2 a3 a4 a5 a6 a7 a8 a9 a10 a11) (weighbridgelaw09_PacketTells.f (k + 1) a0 a1 a2 a3 a4 a5 a6 a7 a8 a9 a10 a11) := by
 intro a0 a1 a2 a3 a4 a5 a6 a7 a8 a9 a10 a11 k
 obtain ⟨ih0, ih1⟩ := weighbridgelaw09_PacketTells.mono_l k
 unfold weighbridgelaw09_PacketTells.f
 repeat' first
   | (with_reducible exact ih0 _ _ _ _ _ _ _ _ _ _ _ _ _ _ _ _ _ _ _ _ _ _ _ _ _ _ _ _ _ _ _ _ _)
   | (with_reducible exact ih1 _ _ _ _ _ _ _ _ _ _ _ _ _ _ _ _ _ _ _ _ _ _ _ _ _ _ _)
   | (with_reducible exact LeO.refl _)
   | (with_reducible exact LeO.none _)
   | (with_reducible refine LeO.ite ?_ ?_)
   | (with_reducible refine LeO.bind ?_ (fun _ => ?_))
   | exact ih0 _ _ _ _ _ _ _ _ _ _ _ _ _ _ _ _ _ _ _ _ _ _ _ _ _ _ _ _ _ _ _ _ _
   | exact ih1 _ _ _ _ _ _ _ _ _ _ _ _ _ _ _ _ _ _ _ _ _ _ _ _ _ _ _
   | exact LeO.none _
   | refine LeO.ite ?_ ?_
   | refine LeO.bind ?_ (fun _ => ?_)
set_option maxHeartbeats 8000000 in
set_option maxRecDepth 100000 in
theorem weighbridgelaw09_PacketTells.calls (k : Nat) (a0_0 : Int) (a0_1 : Int) (a0_2 : Int) (a0_3 : Int) (a0_4 : Int) (a0_5 : Int) (a0_6 : Int) (a0_7 : ByteArray) (a0_8 : Bool) (a0_9 : Int) (a0_10 : Int) (a1 : ByteArray) (r : Bool) (w : World) (h : weighbridgelaw09_PacketTells.f k a0_0 a0_1 a0_2 a0_3 a0_4 a0_5 a0_6 a0_7 a0_8 a0_9 a0_10 a1 = some r) (hr_ : r = true) :
  Calls Try.prog 4 #[.agg #[.int .u8 a0_0, .int .u32 a0_1, .int .u32 a0_2, .int .u16 a0_3, .int .u16 a0_4, .int .u8 a0_5, .int .u8 a0_6, .string a0_7, .bool a0_8, .int .u32 a0_9, .int .u32 a0_10], .string a1] w fun e w' => e = .returned (.bool r) ∧ Below w.heap.size w w' := by
 have hu25 := Try.underlying25
 have hu32 := Try.underlying32
 have hu30 := Try.underlying30
 have HB := Aside0.mk (Below.refl w.heap.size w)
 have H : ((weighbridgelaw09_examples.f).bind fun t515 => (if t515 = true then ((weighbridgelaw09_Make_frame.f a0_0 a0_1 a0_2 a0_3 a0_4 a0_5 a0_6 a0_7 a0_8 a0_9 a0_10).bind fun t516 => (if t516.size + a1.size ≤ 9223372036854775807 then ((packet_Classify.f (t516 ++ a1)).bind fun bt517 => (if (Int.tmod a0_0 2) = 1 then (weighbridgelaw09_PacketTells.j0 k t515 t516 bt517.2.2.2.2.2.2.2.2.2.2.2.2.2.2 a0_0 a0_1 a0_2 a0_3 a0_4 a0_5 a0_6 a0_7 a0_8 a0_9 a0_10 bt517.1 bt517.2.1 bt517.2.2.1 bt517.2.2.2.1 bt517.2.2.2.2.1 bt517.2.2.2.2.2.1 bt517.2.2.2.2.2.2.1 bt517.2.2.2.2.2.2.2.1 bt517.2.2.2.2.2.2.2.2.1 bt517.2.2.2.2.2.2.2.2.2.1 bt517.2.2.2.2.2.2.2.2.2.2.1 bt517.2.2.2.2.2.2.2.2.2.2.2.1 bt517.2.2.2.2.2.2.2.2.2.2.2.2.1 bt517.2.2.2.2.2.2.2.2.2.2.2.2.2.1 17 a0_1 a0_2 (wrap64 (a0_3)) (wrap64 (a0_4))) else (weighbridgelaw09_PacketTells.j0 k t515 t516 bt517.2.2.2.2.2.2.2.2.2.2.2.2.2.2 a0_0 a0_1 a0_2 a0_3 a0_4 a0_5 a0_6 a0_7 a0_8 a0_9 a0_10 bt517.1 bt517.2.1 bt517.2.2.1 bt517.2.2.2.1 bt517.2.2.2.2.1 bt517.2.2.2.2.2.1 bt517.2.2.2.2.2.2.1 bt517.2.2.2.2.2.2.2.1 bt517.2.2.2.2.2.2.2.2.1 bt517.2.2.2.2.2.2.2.2.2.1 bt517.2.2.2.2.2.2.2.2.2.2.1 bt517.2.2.2.2.2.2.2.2.2.2.2.1 bt517.2.2.2.2.2.2.2.2.2.2.2.2.1 bt517.2.2.2.2.2.2.2.2.2.2.2.2.2.1 6 a0_1 a0_2 (wrap64 (a0_3)) (wrap64 (a0_4))))) else (none))) else (some false))) = some r := h
 clear h
 replace H := Option.bind_eq_some_iff.mp H
 obtain ⟨t515, A30, H⟩ := H
 (try set_option simprocs false in dsimp only at H)
 have A3 := Aside0.mk A30
 clear A30
 by_cases c4 : t515 = true
 rotate_left
 ·replace c4 := Bool.eq_false_iff.mpr c4
  subst c4
  have H1 : (some false) = some r := by rw [if_neg (show ¬ (false = true) by decide)] at H; exact H
  clear H
  have H := H1
  clear H1
  exact absurd ((Option.some.inj H).trans hr_) (by decide)
 subst c4
 first | rw [if_pos rfl] at H | rw [if_pos trivial] at H
 replace H := Option.bind_eq_some_iff.mp H
 obtain ⟨t516, A50, H⟩ := H
 (try set_option simprocs false in dsimp only at H)
 have A5 := Aside0.mk A50
 clear A50
 by_cases c6 : t516.size + a1.size ≤ 9223372036854775807
 rotate_left
 ·rw [if_neg c6] at H
  exact absurd H (by simp)
 rw [if_pos c6] at H
 have c6b0 := eq_true c6
 have c6b1 : decide (t516.size + a1.size ≤ 9223372036854775807) = true := decide_eq_true c6
 try have c6b2 : (9223372036854775807 < t516.size + a1.size) = False := eq_false (Nat.not_lt.2 c6)
 replace H := Option.bind_eq_some_iff.mp H
 obtain ⟨⟨t517, t518, t519, t520, t521, t522, t523, t524, t525, t526, t527, t528, t529, t530, t531⟩, A70, H⟩ := H
 (try set_option simprocs false in dsimp only at H)
 have A7 := Aside0.mk A70
 clear A70
 have HC8 := Aside0.mk H
 clear H
 go_enter Try.func4, Try.ntmps4
 go_upto_if 36 with (first | ((with_reducible refine gate_dst (N := 2) rfl ?_); (try (refine gate_guard (by rfl) ?_; dsimp only)); refine box_event ?hg (N := 2) ?hd (cs := #[.int .u8 a0_0, .int .u32 a0_1, .int .u32 a0_2, .int .u16 a0_3, .int .u16 a0_4, .int .u8 a0_5, .int .u8 a0_6, .string a0_7, .bool a0_8, .int .u32 a0_9, .int .u32 a0_10]) (t := 25) ?hr ?_; (case hd => rfl); (case hg => rfl); (case hr => first | (go_simp; done) | (go_simp; rfl)); intro gb514 hg w9 hbox hb; have n0_ := Aside0.mk (below_step (BW HB) hb); have n1_ := Aside0.mk (hbox); have n2_ := Aside0.mk ((by rw [hg]; exact (below_size (BW HB)) : w.heap.size ≤ gb514)); have n3_ := Aside0.mk ((by rw [hg]; exact (below_size (BW HB)) : w.heap.size ≤ gb514)); clear HB; have HB := n0_; have BK514 := n1_; have GW514 := n2_; have GE514 := n3_; clear n0_ n1_ n2_ n3_; clear hb hbox hg) | ((with_reducible refine gate_callee (f := 9) rfl ?_); refine goesL_ (some 10) rfl rfl Try.func9 (by kernel_rfl) rfl #[] rfl AG ?_; (with_reducible refine (weighbridgelaw09_examples.calls  true _ A3.out).mono ?_); rintro e w10 ⟨rfl, hb⟩; refine ⟨_, rfl, ?_⟩; have n0_ := Aside0.mk (blk_below (g := gb514) (o := .cells #[.int .u8 a0_0, .int .u32 a0_1, .int .u32 a0_2, .int .u16 a0_3, .int .u16 a0_4, .int .u8 a0_5, .int .u8 a0_6, .string a0_7, .bool a0_8, .int .u32 a0_9, .int .u32 a0_10] 25 (0, 0)) (BD BK514) hb); have n1_ := Aside0.mk (below_step (BW HB) hb); clear BK514; clear HB; have BK514 := n0_; have HB := n1_; clear n0_ n1_; (try clear hb); (try clear hb2); (try clear hk); (try clear hi); obtain ⟨hcz11_0, hcz11_1, hcz11_2, hcz11_3, hcz11_4, hcz11_5, hcz11_6, hcz11_7, hcz11_8, hcz11_9, hcz11_10, hfz11_0, hfz11_1, hfz11_2, hfz11_3, hfz11_4, hfz11_5, hfz11_6, hfz11_7, hfz11_8, hfz11_9, hfz11_10⟩ := blk11 BK514.out) | ((with_reducible refine gate_callee (f := 11) rfl ?_); refine goesL_ (some 14) rfl rfl Try.func11 (by kernel_rfl) rfl #[.agg #[.int .u8 a0_0, .int .u32 a0_1, .int .u32 a0_2, .int .u16 a0_3, .int .u16 a0_4, .int .u8 a0_5, .int .u8 a0_6, .string a0_7, .bool a0_8, .int .u32 a0_9, .int .u32 a0_10]] rfl AG ?_; (with_reducible refine (weighbridgelaw09_Make_frame.calls a0_0 a0_1 a0_2 a0_3 a0_4 a0_5 a0_6 a0_7 a0_8 a0_9 a0_10 t516 _ A5.out).mono ?_); rintro e w12 ⟨rfl, hb⟩; refine ⟨_, rfl, ?_⟩; have n0_ := Aside0.mk (blk_below (g := gb514) (o := .cells #[.int .u8 a0_0, .int .u32 a0_1, .int .u32 a0_2, .int .u16 a0_3, .int .u16 a0_4, .int .u8 a0_5, .int .u8 a0_6, .string a0_7, .bool a0_8, .int .u32 a0_9, .int .u32 a0_10] 25 (0, 0)) (BD BK514) hb); have n1_ := Aside0.mk (below_step (BW HB) hb); clear BK514; clear HB; have BK514 := n0_; have HB := n1_; clear n0_ n1_; (try clear hb); (try clear hb2); (try clear hk); (try clear hi)) | ((with_reducible refine gate_callee (f := 12) rfl ?_); refine goesL_ (some 19) rfl rfl Try.func12 (by kernel_rfl) rfl #[.string (t516 ++ a1)] rfl AG ?_; (with_reducible refine (packet_Classify.calls (t516 ++ a1) t517 t518 t519 t520 t521 t522 t523 t524 t525 t526 t527 t528 t529 t530 t531 _ A7.out).mono ?_); rintro e w13 ⟨rfl, hb⟩; refine ⟨_, rfl, ?_⟩; have n0_ := Aside0.mk (blk_below (g := gb514) (o := .cells #[.int .u8 a0_0, .int .u32 a0_1, .int .u32 a0_2, .int .u16 a0_3, .int .u16 a0_4, .int .u8 a0_5, .int .u8 a0_6, .string a0_7, .bool a0_8, .int .u32 a0_9, .int .u32 a0_10] 25 (0, 0)) (BD BK514) hb); have n1_ := Aside0.mk (below_step (BW HB) hb); clear BK514; clear HB; have BK514 := n0_; have HB := n1_; clear n0_ n1_; (try clear hb); (try clear hb2); (try clear hk); (try clear hi)) | ((with_reducible refine gate_dst (N := 7) rfl ?_); (try (refine gate_guard (by rfl) ?_; dsimp only)); refine box_event ?hg (N := 7) ?hd (cs := #[.int .i64 0, .int .i64 0, .int .i64 0, .int .i64 0, .int .u32 0, .int .u32 0, .int .i64 0, .int .i64 0, .int .i64 0, .int .i64 0, .int .u32 0, .int .u32 0, .int .i64 0, .int .i64 0]) (t := 32) ?hr ?_; (case hd => rfl); (case hg => rfl); (case hr => first | (go_simp; done) | (go_simp; rfl)); intro gb532 hg w14 hbox hb; have n0_ := Aside0.mk (blk_below (g := gb514) (o := .cells #[.int .u8 a0_0, .int .u32 a0_1, .int .u32 a0_2, .int .u16 a0_3, .int .u16 a0_4, .int .u8 a0_5, .int .u8 a0_6, .string a0_7, .bool a0_8, .int .u32 a0_9, .int .u32 a0_10] 25 (0, 0)) (BD BK514) hb); have n1_ := Aside0.mk (below_step (BW HB) hb); have n2_ := Aside0.mk (hbox); have n3_ := Aside0.mk ((by rw [hg]; exact (below_size (BW HB)) : w.heap.size ≤ gb532)); have n4_ := Aside0.mk ((by rw [hg]; exact (below_size (BW HB)) : w.heap.size ≤ gb532)); have n5_ := Aside0.mk ((by rw [hg]; exact Nat.ne_of_lt (blk_lt (g := gb514) (o := .cells #[.int .u8 a0_0, .int .u32 a0_1, .int .u32 a0_2, .int .u16 a0_3, .int .u16 a0_4, .int .u8 a0_5, .int .u8 a0_6, .string a0_7, .bool a0_8, .int .u32 a0_9, .int .u32 a0_10] 25 (0, 0)) (BD BK514)) : gb514 ≠ gb532)); have n6_ := Aside0.mk ((by rw [hg]; exact Nat.ne_of_gt (blk_lt (g := gb514) (o := .cells #[.int .u8 a0_0, .int .u32 a0_1, .int .u32 a0_2, .int .u16 a0_3, .int .u16 a0_4, .int .u8 a0_5, .int .u8 a0_6, .string a0_7, .bool a0_8, .int .u32 a0_9, .int .u32 a0_10] 25 (0, 0)) (BD BK514)) : gb532 ≠ gb514)); clear BK514; clear HB; have BK514 := n0_; have HB := n1_; have BK532 := n2_; have GW532 := n3_; have GE532 := n4_; have NB514_532 := n5_; have NB532_514 := n6_; clear n0_ n1_ n2_ n3_ n4_ n5_ n6_; clear hb hbox hg; have hnb15 := NB532_514.out; have hnc15 := NB514_532.out; obtain ⟨hcz16_0, hcz16_1, hcz16_2, hcz16_3, hcz16_4, hcz16_5, hcz16_6, hcz16_7, hcz16_8, hcz16_9, hcz16_10, hcz16_11, hcz16_12, hcz16_13, hfz16_0, hfz16_1, hfz16_2, hfz16_3, hfz16_4, hfz16_5, hfz16_6, hfz16_7, hfz16_8, hfz16_9, hfz16_10, hfz16_11, hfz16_12, hfz16_13⟩ := blk14 BK532.out; obtain ⟨hcz17_0, hcz17_1, hcz17_2, hcz17_3, hcz17_4, hcz17_5, hcz17_6, hcz17_7, hcz17_8, hcz17_9, hcz17_10, hfz17_0, hfz17_1, hfz17_2, hfz17_3, hfz17_4, hfz17_5, hfz17_6, hfz17_7, hfz17_8, hfz17_9, hfz17_10⟩ := blk11 BK514.out) | ((with_reducible refine gate_dst (N := 9) rfl ?_); (try (refine gate_guard (by rfl) ?_; dsimp only)); refine box_event ?hg (N := 9) ?hd (cs := #[.int .i64 0, .int .u32 0, .int .u32 0, .int .i64 0, .int .i64 0]) (t := 30) ?hr ?_; (case hd => rfl); (case hg => rfl); (case hr => first | (go_simp; done) | (go_simp; rfl)); intro gb533 hg w18 hbox hb; have n0_ := Aside0.mk (blk_below (g := gb514) (o := .cells #[.int .u8 a0_0, .int .u32 a0_1, .int .u32 a0_2, .int .u16 a0_3, .int .u16 a0_4, .int .u8 a0_5, .int .u8 a0_6, .string a0_7, .bool a0_8, .int .u32 a0_9, .int .u32 a0_10] 25 (0, 0)) (by (with_reducible repeat (first | refine blk_drewN ?_ _ | refine blk_drew ?_ | refine blk_alloc ?_ _)); refine blk_far ?_ NB514_532.out _; (with_reducible repeat (first | refine blk_drewN ?_ _ | refine blk_drew ?_ | refine blk_alloc ?_ _)); refine blk_far ?_ NB514_532.out _; (with_reducible repeat (first | refine blk_drewN ?_ _ | refine blk_drew ?_ | refine blk_alloc ?_ _)); refine blk_far ?_ NB514_532.out _; (with_reducible repeat (first | refine blk_drewN ?_ _ | refine blk_drew ?_ | refine blk_alloc ?_ _)); refine blk_far ?_ NB514_532.out _; (with_reducible repeat (first | refine blk_drewN ?_ _ | refine blk_drew ?_ | refine blk_alloc ?_ _)); refine blk_far ?_ NB514_532.out _; (with_reducible repeat (first | refine blk_drewN ?_ _ | refine blk_drew ?_ | refine blk_alloc ?_ _)); refine blk_far ?_ NB514_532.out _; (with_reducible repeat (first | refine blk_drewN ?_ _ | refine blk_drew ?_ | refine blk_alloc ?_ _)); refine blk_far ?_ NB514_532.out _; (with_reducible repeat (first | refine blk_drewN ?_ _ | refine blk_drew ?_ | refine blk_alloc ?_ _)); refine blk_far ?_ NB514_532.out _; (with_reducible repeat (first | refine blk_drewN ?_ _ | refine blk_drew ?_ | refine blk_alloc ?_ _)); refine blk_far ?_ NB514_532.out _; (with_reducible repeat (first | refine blk_drewN ?_ _ | refine blk_drew ?_ | refine blk_alloc ?_ _)); refine blk_far ?_ NB514_532.out _; (with_reducible repeat (first | refine blk_drewN ?_ _ | refine blk_drew ?_ | refine blk_alloc ?_ _)); refine blk_far ?_ NB514_532.out _; (with_reducible repeat (first | refine blk_drewN ?_ _ | refine blk_drew ?_ | refine blk_alloc ?_ _)); refine blk_far ?_ NB514_532.out _; (with_reducible repeat (first | refine blk_drewN ?_ _ | refine blk_drew ?_ | refine blk_alloc ?_ _)); refine blk_far ?_ NB514_532.out _; (with_reducible repeat (first | refine blk_drewN ?_ _ | refine blk_drew ?_ | refine blk_alloc ?_ _)); refine blk_far ?_ NB514_532.out _; (with_reducible repeat (first | refine blk_drewN ?_ _ | refine blk_drew ?_ | refine blk_alloc ?_ _)); exact BK514.out) hb); have n1_ := Aside0.mk (blk_below (g := gb532) (o := .cells #[.int .i64 t517, .int .i64 t518, .int .i64 t519, .int .i64 t520, .int .u32 t521, .int .u32 t522, .int .i64 t523, .int .i64 t524, .int .i64 t525, .int .i64 t526, .int .u32 t527, .int .u32 t528, .int .i64 t529, .int .i64 t530] 32 (0, 0)) (by (with_reducible repeat (first | refine blk_drewN ?_ _ | refine blk_drew ?_ | refine blk_alloc ?_ _)); refine blk_put (cs := #[.int .i64 t517, .int .i64 t518, .int .i64 t519, .int .i64 t520, .int .u32 t521, .int .u32 t522, .int .i64 t523, .int .i64 t524, .int .i64 t525, .int .i64 t526, .int .u32 t527, .int .u32 t528, .int .i64 t529, .int .i64 0]) ?_ 13 _ rfl; (with_reducible repeat (first | refine blk_drewN ?_ _ | refine blk_drew ?_ | refine blk_alloc ?_ _)); refine blk_put (cs := #[.int .i64 t517, .int .i64 t518, .int .i64 t519, .int .i64 t520, .int .u32 t521, .int .u32 t522, .int .i64 t523, .int .i64 t524, .int .i64 t525, .int .i64 t526, .int .u32 t527, .int .u32 t528, .int .i64 0, .int .i64 0]) ?_ 12 _ rfl; (with_reducible repeat (first | refine blk_drewN ?_ _ | refine blk_drew ?_ | refine blk_alloc ?_ _)); refine blk_put (cs := #[.int .i64 t517, .int .i64 t518, .int .i64 t519, .int .i64 t520, .int .u32 t521, .int .u32 t522, .int .i64 t523, .int .i64 t524, .int .i64 t525, .int .i64 t526, .int .u32 t527, .int .u32 0, .int .i64 0, .int .i64 0]) ?_ 11 _ rfl; (with_reducible repeat (first | refine blk_drewN ?_ _ | refine blk_drew ?_ | refine blk_alloc ?_ _)); refine blk_put (cs := #[.int .i64 t517, .int .i64 t518, .int .i64 t519, .int .i64 t520, .int .u32 t521, .int .u32 t522, .int .i64 t523, .int .i64 t524, .int .i64 t525, .int .i64 t526, .int .u32 0, .int .u32 0, .int .i64 0, .int .i64 0]) ?_ 10 _ rfl; (with_reducible repeat (first | refine blk_drewN ?_ _ | refine blk_drew ?_ | refine blk_alloc ?_ _)); refine blk_put (cs := #[.int .i64 t517, .int .i64 t518, .int .i64 t519, .int .i64 t520, .int .u32 t521, .int .u32 t522, .int .i64 t523, .int .i64 t524, .int .i64 t525, .int .i64 0, .int .u32 0, .int .u32 0, .int .i64 0, .int .i64 0]) ?_ 9 _ rfl; (with_reducible repeat (first | refine blk_drewN ?_ _ | refine blk_drew ?_ | refine blk_alloc ?_ _)); refine blk_put (cs := #[.int .i64 t517, .int .i64 t518, .int .i64 t519, .int .i64 t520, .int .u32 t521, .int .u32 t522, .int .i64 t523, .int .i64 t524, .int .i64 0, .int .i64 0, .int .u32 0, .int .u32 0, .int .i64 0, .int .i64 0]) ?_ 8 _ rfl; (with_reducible repeat (first | refine blk_drewN ?_ _ | refine blk_drew ?_ | refine blk_alloc ?_ _)); refine blk_put (cs := #[.int .i64 t517, .int .i64 t518, .int .i64 t519, .int .i64 t520, .int .u32 t521, .int .u32 t522, .int .i64 t523, .int .i64 0, .int .i64 0, .int .i64 0, .int .u32 0, .int .u32 0, .int .i64 0, .int .i64 0]) ?_ 7 _ rfl; (with_reducible repeat (first | refine blk_drewN ?_ _ | refine blk_drew ?_ | refine blk_alloc ?_ _)); refine blk_put (cs := #[.int .i64 t517, .int .i64 t518, .int .i64 t519, .int .i64 t520, .int .u32 t521, .int .u32 t522, .int .i64 0, .int .i64 0, .int .i64 0, .int .i64 0, .int .u32 0, .int .u32 0, .int .i64 0, .int .i64 0]) ?_ 6 _ rfl; (with_reducible repeat (first | refine blk_drewN ?_ _ | refine blk_drew ?_ | refine blk_alloc ?_ _)); refine blk_put (cs := #[.int .i64 t517, .int .i64 t518, .int .i64 t519, .int .i64 t520, .int .u32 t521, .int .u32 0, .int .i64 0, .int .i64 0, .int .i64 0, .int .i64 0, .int .u32 0, .int .u32 0, .int .i64 0, .int .i64 0]) ?_ 5 _ rfl; (with_reducible repeat (first | refine blk_drewN ?_ _ | refine blk_drew ?_ | refine blk_alloc ?_ _)); refine blk_put (cs := #[.int .i64 t517, .int .i64 t518, .int .i64 t519, .int .i64 t520, .int .u32 0, .int .u32 0, .int .i64 0, .int .i64 0, .int .i64 0, .int .i64 0, .int .u32 0, .int .u32 0, .int .i64 0, .int .i64 0]) ?_ 4 _ rfl; (with_reducible repeat (first | refine blk_drewN ?_ _ | refine blk_drew ?_ | refine blk_alloc ?_ _)); refine blk_put (cs := #[.int .i64 t517, .int .i64 t518, .int .i64 t519, .int .i64 0, .int .u32 0, .int .u32 0, .int .i64 0, .int .i64 0, .int .i64 0, .int .i64 0, .int .u32 0, .int .u32 0, .int .i64 0, .int .i64 0]) ?_ 3 _ rfl; (with_reducible repeat (first | refine blk_drewN ?_ _ | refine blk_drew ?_ | refine blk_alloc ?_ _)); refine blk_put (cs := #[.int .i64 t517, .int .i64 t518, .int .i64 0, .int .i64 0, .int .u32 0, .int .u32 0, .int .i64 0, .int .i64 0, .int .i64 0, .int .i64 0, .int .u32 0, .int .u32 0, .int .i64 0, .int .i64 0]) ?_ 2 _ rfl; (with_reducible repeat (first | refine blk_drewN ?_ _ | refine blk_drew ?_ | refine blk_alloc ?_ _)); refine blk_put (cs := #[.int .i64 t517, .int .i64 0, .int .i64 0, .int .i64 0, .int .u32 0, .int .u32 0, .int .i64 0, .int .i64 0, .int .i64 0, .int .i64 0, .int .u32 0, .int .u32 0, .int .i64 0, .int .i64 0]) ?_ 1 _ rfl; (with_reducible repeat (first | refine blk_drewN ?_ _ | refine blk_drew ?_ | refine blk_alloc ?_ _)); refine blk_put (cs := #[.int .i64 0, .int .i64 0, .int .i64 0, .int .i64 0, .int .u32 0, .int .u32 0, .int .i64 0, .int .i64 0, .int .i64 0, .int .i64 0, .int .u32 0, .int .u32 0, .int .i64 0, .int .i64 0]) ?_ 0 _ rfl; (with_reducible repeat (first | refine blk_drewN ?_ _ | refine blk_drew ?_ | refine blk_alloc ?_ _)); exact BK532.out) hb); have n2_ := Aside0.mk (below_step (BW HB) hb); have n3_ := Aside0.mk (hbox); have n4_ := Aside0.mk ((by rw [hg]; exact (below_size (BW HB)) : w.heap.size ≤ gb533)); have n5_ := Aside0.mk ((by rw [hg]; exact (below_size (BW HB)) : w.heap.size ≤ gb533)); have n6_ := Aside0.mk ((by rw [hg]; exact Nat.ne_of_lt (blk_lt (g := gb514) (o := .cells #[.int .u8 a0_0, .int .u32 a0_1, .int .u32 a0_2, .int .u16 a0_3, .int .u16 a0_4, .int .u8 a0_5, .int .u8 a0_6, .string a0_7, .bool a0_8, .int .u32 a0_9, .int .u32 a0_10] 25 (0, 0)) (by (with_reducible repeat (first | refine blk_drewN ?_ _ | refine blk_drew ?_ | refine blk_alloc ?_ _)); refine blk_far ?_ NB514_532.out _; (with_reducible repeat (first | refine blk_drewN ?_ _ | refine blk_drew ?_ | refine blk_alloc ?_ _)); refine blk_far ?_ NB514_532.out _; (with_reducible repeat (first | refine blk_drewN ?_ _ | refine blk_drew ?_ | refine blk_alloc ?_ _)); refine blk_far ?_ NB514_532.out _; (with_reducible repeat (first | refine blk_drewN ?_ _ | refine blk_drew ?_ | refine blk_alloc ?_ _)); refine blk_far ?_ NB514_532.out _; (with_reducible repeat (first | refine blk_drewN ?_ _ | refine blk_drew ?_ | refine blk_alloc ?_ _)); refine blk_far ?_ NB514_532.out _; (with_reducible repeat (first | refine blk_drewN ?_ _ | refine blk_drew ?_ | refine blk_alloc ?_ _)); refine blk_far ?_ NB514_532.out _; (with_reducible repeat (first | refine blk_drewN ?_ _ | refine blk_drew ?_ | refine blk_alloc ?_ _)); refine blk_far ?_ NB514_532.out _; (with_reducible repeat (first | refine blk_drewN ?_ _ | refine blk_drew ?_ | refine blk_alloc ?_ _)); refine blk_far ?_ NB514_532.out _; (with_reducible repeat (first | refine blk_drewN ?_ _ | refine blk_drew ?_ | refine blk_alloc ?_ _)); refine blk_far ?_ NB514_532.out _; (with_reducible repeat (first | refine blk_drewN ?_ _ | refine blk_drew ?_ | refine blk_alloc ?_ _)); refine blk_far ?_ NB514_532.out _; (with_reducible repeat (first | refine blk_drewN ?_ _ | refine blk_drew ?_ | refine blk_alloc ?_ _)); refine blk_far ?_ NB514_532.out _; (with_reducible repeat (first | refine blk_drewN ?_ _ | refine blk_drew ?_ | refine blk_alloc ?_ _)); refine blk_far ?_ NB514_532.out _; (with_reducible repeat (first | refine blk_drewN ?_ _ | refine blk_drew ?_ | refine blk_alloc ?_ _)); refine blk_far ?_ NB514_532.out _; (with_reducible repeat (first | refine blk_drewN ?_ _ | refine blk_drew ?_ | refine blk_alloc ?_ _)); refine blk_far ?_ NB514_532.out _; (with_reducible repeat (first | refine blk_drewN ?_ _ | refine blk_drew ?_ | refine blk_alloc ?_ _)); exact BK514.out)) : gb514 ≠ gb533)); have n7_ := Aside0.mk ((by rw [hg]; exact Nat.ne_of_gt (blk_lt (g := gb514) (o := .cells #[.int .u8 a0_0, .int .u32 a0_1, .int .u32 a0_2, .int .u16 a0_3, .int .u16 a0_4, .int .u8 a0_5, .int .u8 a0_6, .string a0_7, .bool a0_8, .int .u32 a0_9, .int .u32 a0_10] 25 (0, 0)) (by (with_reducible repeat (first | refine blk_drewN ?_ _ | refine blk_drew ?_ | refine blk_alloc ?_ _)); refine blk_far ?_ NB514_532.out _; (with_reducible repeat (first | refine blk_drewN ?_ _ | refine blk_drew ?_ | refine blk_alloc ?_ _)); refine blk_far ?_ NB514_532.out _; (with_reducible repeat (first | refine blk_drewN ?_ _ | refine blk_drew ?_ | refine blk_alloc ?_ _)); refine blk_far ?_ NB514_532.out _; (with_reducible repeat (first | refine blk_drewN ?_ _ | refine blk_drew ?_ | refine blk_alloc ?_ _)); refine blk_far ?_ NB514_532.out _; (with_reducible repeat (first | refine blk_drewN ?_ _ | refine blk_drew ?_ | refine blk_alloc ?_ _)); refine blk_far ?_ NB514_532.out _; (with_reducible repeat (first | refine blk_drewN ?_ _ | refine blk_drew ?_ | refine blk_alloc ?_ _)); refine blk_far ?_ NB514_532.out _; (with_reducible repeat (first | refine blk_drewN ?_ _ | refine blk_drew ?_ | refine blk_alloc ?_ _)); refine blk_far ?_ NB514_532.out _; (with_reducible repeat (first | refine blk_drewN ?_ _ | refine blk_drew ?_ | refine blk_alloc ?_ _)); refine blk_far ?_ NB514_532.out _; (with_reducible repeat (first | refine blk_drewN ?_ _ | refine blk_drew ?_ | refine blk_alloc ?_ _)); refine blk_far ?_ NB514_532.out _; (with_reducible repeat (first | refine blk_drewN ?_ _ | refine blk_drew ?_ | refine blk_alloc ?_ _)); refine blk_far ?_ NB514_532.out _; (with_reducible repeat (first | refine blk_drewN ?_ _ | refine blk_drew ?_ | refine blk_alloc ?_ _)); refine blk_far ?_ NB514_532.out _; (with_reducible repeat (first | refine blk_drewN ?_ _ | refine blk_drew ?_ | refine blk_alloc ?_ _)); refine blk_far ?_ NB514_532.out _; (with_reducible repeat (first | refine blk_drewN ?_ _ | refine blk_drew ?_ | refine blk_alloc ?_ _)); refine blk_far ?_ NB514_532.out _; (with_reducible repeat (first | refine blk_drewN ?_ _ | refine blk_drew ?_ | refine blk_alloc ?_ _)); refine blk_far ?_ NB514_532.out _; (with_reducible repeat (first | refine blk_drewN ?_ _ | refine blk_drew ?_ | refine blk_alloc ?_ _)); exact BK514.out)) : gb533 ≠ gb514)); have n8_ := Aside0.mk ((by rw [hg]; exact Nat.ne_of_lt (blk_lt (g := gb532) (o := .cells #[.int .i64 t517, .int .i64 t518, .int .i64 t519, .int .i64 t520, .int .u32 t521, .int .u32 t522, .int .i64 t523, .int .i64 t524, .int .i64 t525, .int .i64 t526, .int .u32 t527, .int .u32 t528, .int .i64 t529, .int .i64 t530] 32 (0, 0)) (by (with_reducible repeat (first | refine blk_drewN ?_ _ | refine blk_drew ?_ | refine blk_alloc ?_ _)); refine blk_put (cs := #[.int .i64 t517, .int .i64 t518, .int .i64 t519, .int .i64 t520, .int .u32 t521, .int .u32 t522, .int .i64 t523, .int .i64 t524, .int .i64 t525, .int .i64 t526, .int .u32 t527, .int .u32 t528, .int .i64 t529, .int .i64 0]) ?_ 13 _ rfl; (with_reducible repeat (first | refine blk_drewN ?_ _ | refine blk_drew ?_ | refine blk_alloc ?_ _)); refine blk_put (cs := #[.int .i64 t517, .int .i64 t518, .int .i64 t519, .int .i64 t520, .int .u32 t521, .int .u32 t522, .int .i64 t523, .int .i64 t524, .int .i64 t525, .int .i64 t526, .int .u32 t527, .int .u32 t528, .int .i64 0, .int .i64 0]) ?_ 12 _ rfl; (with_reducible repeat (first | refine blk_drewN ?_ _ | refine blk_drew ?_ | refine blk_alloc ?_ _)); refine blk_put (cs := #[.int .i64 t517, .int .i64 t518, .int .i64 t519, .int .i64 t520, .int .u32 t521, .int .u32 t522, .int .i64 t523, .int .i64 t524, .int .i64 t525, .int .i64 t526, .int .u32 t527, .int .u32 0, .int .i64 0, .int .i64 0]) ?_ 11 _ rfl; (with_reducible repeat (first | refine blk_drewN ?_ _ | refine blk_drew ?_ | refine blk_alloc ?_ _)); refine blk_put (cs := #[.int .i64 t517, .int .i64 t518, .int .i64 t519, .int .i64 t520, .int .u32 t521, .int .u32 t522, .int .i64 t523, .int .i64 t524, .int .i64 t525, .int .i64 t526, .int .u32 0, .int .u32 0, .int .i64 0, .int .i64 0]) ?_ 10 _ rfl; (with_reducible repeat (first | refine blk_drewN ?_ _ | refine blk_drew ?_ | refine blk_alloc ?_ _)); refine blk_put (cs := #[.int .i64 t517, .int .i64 t518, .int .i64 t519, .int .i64 t520, .int .u32 t521, .int .u32 t522, .int .i64 t523, .int .i64 t524, .int .i64 t525, .int .i64 0, .int .u32 0, .int .u32 0, .int .i64 0, .int .i64 0]) ?_ 9 _ rfl; (with_reducible repeat (first | refine blk_drewN ?_ _ | refine blk_drew ?_ | refine blk_alloc ?_ _)); refine blk_put (cs := #[.int .i64 t517, .int .i64 t518, .int .i64 t519, .int .i64 t520, .int .u32 t521, .int .u32 t522, .int .i64 t523, .int .i64 t524, .int .i64 0, .int .i64 0, .int .u32 0, .int .u32 0, .int .i64 0, .int .i64 0]) ?_ 8 _ rfl; (with_reducible repeat (first | refine blk_drewN ?_ _ | refine blk_drew ?_ | refine blk_alloc ?_ _)); refine blk_put (cs := #[.int .i64 t517, .int .i64 t518, .int .i64 t519, .int .i64 t520, .int .u32 t521, .int .u32 t522, .int .i64 t523, .int .i64 0, .int .i64 0, .int .i64 0, .int .u32 0, .int .u32 0, .int .i64 0, .int .i64 0]) ?_ 7 _ rfl; (with_reducible repeat (first | refine blk_drewN ?_ _ | refine blk_drew ?_ | refine blk_alloc ?_ _)); refine blk_put (cs := #[.int .i64 t517, .int .i64 t518, .int .i64 t519, .int .i64 t520, .int .u32 t521, .int .u32 t522, .int .i64 0, .int .i64 0, .int .i64 0, .int .i64 0, .int .u32 0, .int .u32 0, .int .i64 0, .int .i64 0]) ?_ 6 _ rfl; (with_reducible repeat (first | refine blk_drewN ?_ _ | refine blk_drew ?_ | refine blk_alloc ?_ _)); refine blk_put (cs := #[.int .i64 t517, .int .i64 t518, .int .i64 t519, .int .i64 t520, .int .u32 t521, .int .u32 0, .int .i64 0, .int .i64 0, .int .i64 0, .int .i64 0, .int .u32 0, .int .u32 0, .int .i64 0, .int .i64 0]) ?_ 5 _ rfl; (with_reducible repeat (first | refine blk_drewN ?_ _ | refine blk_drew ?_ | refine blk_alloc ?_ _)); refine blk_put (cs := #[.int .i64 t517, .int .i64 t518, .int .i64 t519, .int .i64 t520, .int .u32 0, .int .u32 0, .int .i64 0, .int .i64 0, .int .i64 0, .int .i64 0, .int .u32 0, .int .u32 0, .int .i64 0, .int .i64 0]) ?_ 4 _ rfl; (with_reducible repeat (first | refine blk_drewN ?_ _ | refine blk_drew ?_ | refine blk_alloc ?_ _)); refine blk_put (cs := #[.int .i64 t517, .int .i64 t518, .int .i64 t519, .int .i64 0, .int .u32 0, .int .u32 0, .int .i64 0, .int .i64 0, .int .i64 0, .int .i64 0, .int .u32 0, .int .u32 0, .int .i64 0, .int .i64 0]) ?_ 3 _ rfl; (with_reducible repeat (first | refine blk_drewN ?_ _ | refine blk_drew ?_ | refine blk_alloc ?_ _)); refine blk_put (cs := #[.int .i64 t517, .int .i64 t518, .int .i64 0, .int .i64 0, .int .u32 0, .int .u32 0, .int .i64 0, .int .i64 0, .int .i64 0, .int .i64 0, .int .u32 0, .int .u32 0, .int .i64 0, .int .i64 0]) ?_ 2 _ rfl; (with_reducible repeat (first | refine blk_drewN ?_ _ | refine blk_drew ?_ | refine blk_alloc ?_ _)); refine blk_put (cs := #[.int .i64 t517, .int .i64 0, .int .i64 0, .int .i64 0, .int .u32 0, .int .u32 0, .int .i64 0, .int .i64 0, .int .i64 0, .int .i64 0, .int .u32 0, .int .u32 0, .int .i64 0, .int .i64 0]) ?_ 1 _ rfl; (with_reducible repeat (first | refine blk_drewN ?_ _ | refine blk_drew ?_ | refine blk_alloc ?_ _)); refine blk_put (cs := #[.int .i64 0, .int .i64 0, .int .i64 0, .int .i64 0, .int .u32 0, .int .u32 0, .int .i64 0, .int .i64 0, .int .i64 0, .int .i64 0, .int .u32 0, .int .u32 0, .int .i64 0, .int .i64 0]) ?_ 0 _ rfl; (with_reducible repeat (first | refine blk_drewN ?_ _ | refine blk_drew ?_ | refine blk_alloc ?_ _)); exact BK532.out)) : gb532 ≠ gb533)); have n9_ := Aside0.mk ((by rw [hg]; exact Nat.ne_of_gt (blk_lt (g := gb532) (o := .cells #[.int .i64 t517, .int .i64 t518, .int .i64 t519, .int .i64 t520, .int .u32 t521, .int .u32 t522, .int .i64 t523, .int .i64 t524, .int .i64 t525, .int .i64 t526, .int .u32 t527, .int .u32 t528, .int .i64 t529, .int .i64 t530] 32 (0, 0)) (by (with_reducible repeat (first | refine blk_drewN ?_ _ | refine blk_drew ?_ | refine blk_alloc ?_ _)); refine blk_put (cs := #[.int .i64 t517, .int .i64 t518, .int .i64 t519, .int .i64 t520, .int .u32 t521, .int .u32 t522, .int .i64 t523, .int .i64 t524, .int .i64 t525, .int .i64 t526, .int .u32 t527, .int .u32 t528, .int .i64 t529, .int .i64 0]) ?_ 13 _ rfl; (with_reducible repeat (first | refine blk_drewN ?_ _ | refine blk_drew ?_ | refine blk_alloc ?_ _)); refine blk_put (cs := #[.int .i64 t517, .int .i64 t518, .int .i64 t519, .int .i64 t520, .int .u32 t521, .int .u32 t522, .int .i64 t523, .int .i64 t524, .int .i64 t525, .int .i64 t526, .int .u32 t527, .int .u32 t528, .int .i64 0, .int .i64 0]) ?_ 12 _ rfl; (with_reducible repeat (first | refine blk_drewN ?_ _ | refine blk_drew ?_ | refine blk_alloc ?_ _)); refine blk_put (cs := #[.int .i64 t517, .int .i64 t518, .int .i64 t519, .int .i64 t520, .int .u32 t521, .int .u32 t522, .int .i64 t523, .int .i64 t524, .int .i64 t525, .int .i64 t526, .int .u32 t527, .int .u32 0, .int .i64 0, .int .i64 0]) ?_ 11 _ rfl; (with_reducible repeat (first | refine blk_drewN ?_ _ | refine blk_drew ?_ | refine blk_alloc ?_ _)); refine blk_put (cs := #[.int .i64 t517, .int .i64 t518, .int .i64 t519, .int .i64 t520, .int .u32 t521, .int .u32 t522, .int .i64 t523, .int .i64 t524, .int .i64 t525, .int .i64 t526, .int .u32 0, .int .u32 0, .int .i64 0, .int .i64 0]) ?_ 10 _ rfl; (with_reducible repeat (first | refine blk_drewN ?_ _ | refine blk_drew ?_ | refine blk_alloc ?_ _)); refine blk_put (cs := #[.int .i64 t517, .int .i64 t518, .int .i64 t519, .int .i64 t520, .int .u32 t521, .int .u32 t522, .int .i64 t523, .int .i64 t524, .int .i64 t525, .int .i64 0, .int .u32 0, .int .u32 0, .int .i64 0, .int .i64 0]) ?_ 9 _ rfl; (with_reducible repeat (first | refine blk_drewN ?_ _ | refine blk_drew ?_ | refine blk_alloc ?_ _)); refine blk_put (cs := #[.int .i64 t517, .int .i64 t518, .int .i64 t519, .int .i64 t520, .int .u32 t521, .int .u32 t522, .int .i64 t523, .int .i64 t524, .int .i64 0, .int .i64 0, .int .u32 0, .int .u32 0, .int .i64 0, .int .i64 0]) ?_ 8 _ rfl; (with_reducible repeat (first | refine blk_drewN ?_ _ | refine blk_drew ?_ | refine blk_alloc ?_ _)); refine blk_put (cs := #[.int .i64 t517, .int .i64 t518, .int .i64 t519, .int .i64 t520, .int .u32 t521, .int .u32 t522, .int .i64 t523, .int .i64 0, .int .i64 0, .int .i64 0, .int .u32 0, .int .u32 0, .int .i64 0, .int .i64 0]) ?_ 7 _ rfl; (with_reducible repeat (first | refine blk_drewN ?_ _ | refine blk_drew ?_ | refine blk_alloc ?_ _)); refine blk_put (cs := #[.int .i64 t517, .int .i64 t518, .int .i64 t519, .int .i64 t520, .int .u32 t521, .int .u32 t522, .int .i64 0, .int .i64 0, .int .i64 0, .int .i64 0, .int .u32 0, .int .u32 0, .int .i64 0, .int .i64 0]) ?_ 6 _ rfl; (with_reducible repeat (first | refine blk_drewN ?_ _ | refine blk_drew ?_ | refine blk_alloc ?_ _)); refine blk_put (cs := #[.int .i64 t517, .int .i64 t518, .int .i64 t519, .int .i64 t520, .int .u32 t521, .int .u32 0, .int .i64 0, .int .i64 0, .int .i64 0, .int .i64 0, .int .u32 0, .int .u32 0, .int .i64 0, .int .i64 0]) ?_ 5 _ rfl; (with_reducible repeat (first | refine blk_drewN ?_ _ | refine blk_drew ?_ | refine blk_alloc ?_ _)); refine blk_put (cs := #[.int .i64 t517, .int .i64 t518, .int .i64 t519, .int .i64 t520, .int .u32 0, .int .u32 0, .int .i64 0, .int .i64 0, .int .i64 0, .int .i64 0, .int .u32 0, .int .u32 0, .int .i64 0, .int .i64 0]) ?_ 4 _ rfl; (with_reducible repeat (first | refine blk_drewN ?_ _ | refine blk_drew ?_ | refine blk_alloc ?_ _)); refine blk_put (cs := #[.int .i64 t517, .int .i64 t518, .int .i64 t519, .int .i64 0, .int .u32 0, .int .u32 0, .int .i64 0, .int .i64 0, .int .i64 0, .int .i64 0, .int .u32 0, .int .u32 0, .int .i64 0, .int .i64 0]) ?_ 3 _ rfl; (with_reducible repeat (first | refine blk_drewN ?_ _ | refine blk_drew ?_ | refine blk_alloc ?_ _)); refine blk_put (cs := #[.int .i64 t517, .int .i64 t518, .int .i64 0, .int .i64 0, .int .u32 0, .int .u32 0, .int .i64 0, .int .i64 0, .int .i64 0, .int .i64 0, .int .u32 0, .int .u32 0, .int .i64 0, .int .i64 0]) ?_ 2 _ rfl; (with_reducible repeat (first | refine blk_drewN ?_ _ | refine blk_drew ?_ | refine blk_alloc ?_ _)); refine blk_put (cs := #[.int .i64 t517, .int .i64 0, .int .i64 0, .int .i64 0, .int .u32 0, .int .u32 0, .int .i64 0, .int .i64 0, .int .i64 0, .int .i64 0, .int .u32 0, .int .u32 0, .int .i64 0, .int .i64 0]) ?_ 1 _ rfl; (with_reducible repeat (first | refine blk_drewN ?_ _ | refine blk_drew ?_ | refine blk_alloc ?_ _)); refine blk_put (cs := #[.int .i64 0, .int .i64 0, .int .i64 0, .int .i64 0, .int .u32 0, .int .u32 0, .int .i64 0, .int .i64 0, .int .i64 0, .int .i64 0, .int .u32 0, .int .u32 0, .int .i64 0, .int .i64 0]) ?_ 0 _ rfl; (with_reducible repeat (first | refine blk_drewN ?_ _ | refine blk_drew ?_ | refine blk_alloc ?_ _)); exact BK532.out)) : gb533 ≠ gb532)); clear BK514; clear BK532; clear HB; have BK514 := n0_; have BK532 := n1_; have HB := n2_; have BK533 := n3_; have GW533 := n4_; have GE533 := n5_; have NB514_533 := n6_; have NB533_514 := n7_; have NB532_533 := n8_; have NB533_532 := n9_; clear n0_ n1_ n2_ n3_ n4_ n5_ n6_ n7_ n8_ n9_; clear hb hbox hg; have hnb19 := NB533_514.out; have hnc19 := NB514_533.out; have hnb20 := NB533_532.out; have hnc20 := NB532_533.out; obtain ⟨hcz21_0, hcz21_1, hcz21_2, hcz21_3, hcz21_4, hfz21_0, hfz21_1, hfz21_2, hfz21_3, hfz21_4⟩ := blk5 BK533.out; obtain ⟨hcz22_0, hcz22_1, hcz22_2, hcz22_3, hcz22_4, hcz22_5, hcz22_6, hcz22_7, hcz22_8, hcz22_9, hcz22_10, hfz22_0, hfz22_1, hfz22_2, hfz22_3, hfz22_4, hfz22_5, hfz22_6, hfz22_7, hfz22_8, hfz22_9, hfz22_10⟩ := blk11 BK514.out))
 (try simp only [Act.put, List.setIfInBounds_toArray, List.set_cons_zero, List.set_cons_succ])
 go_cut [] (fun wc => ∃ (kq : Nat) (x534000_7 : Int), Aside0 (weighbridgelaw09_PacketTells.j0 kq true t516 t531 a0_0 a0_1 a0_2 a0_3 a0_4 a0_5 a0_6 a0_7 a0_8 a0_9 a0_10 t517 t518 t519 t520 t521 t522 t523 t524 t525 t526 t527 t528 t529 t530 x534000_7 a0_1 a0_2 (wrap64 (a0_3)) (wrap64 (a0_4)) = some r) ∧ Aside0 (kq ≤ k) ∧ Aside0 (wc.heap[gb514]? = some (.cells #[.int .u8 a0_0, .int .u32 a0_1, .int .u32 a0_2, .int .u16 a0_3, .int .u16 a0_4, .int .u8 a0_5, .int .u8 a0_6, .string a0_7, .bool a0_8, .int .u32 a0_9, .int .u32 a0_10] 25 (0, 0))) ∧ Aside0 (wc.heap[gb532]? = some (.cells #[.int .i64 t517, .int .i64 t518, .int .i64 t519, .int .i64 t520, .int .u32 t521, .int .u32 t522, .int .i64 t523, .int .i64 t524, .int .i64 t525, .int .i64 t526, .int .u32 t527, .int .u32 t528, .int .i64 t529, .int .i64 t530] 32 (0, 0))) ∧ Aside0 (wc.heap[gb533]? = some (.cells #[.int .i64 x534000_7, .int .u32 a0_1, .int .u32 a0_2, .int .i64 (wrap64 (a0_3)), .int .i64 (wrap64 (a0_4))] 30 (0, 0))) ∧ Aside0 (Below w.heap.size w wc))
 case first =>
  have H := HC8.out
  clear HC8
  by_cases c23 : (Int.tmod a0_0 2) = 1
  ·rw [if_pos c23] at H
   have c23b0 : ((Int.tmod a0_0 2) == 1) = true := beq_iff_eq.mpr c23
   have c23b1 : ((Int.tmod a0_0 2) != 1) = false := bne_eq_false_iff_eq.mpr c23
   clear c23
   (first | rw [c23b0] | (simp only [i64_w, i32_w]; rw [c23b0]) | skip)
   have H' := Aside0.mk H
   clear H
   have hnb24 := NB533_514.out
   have hnc24 := NB514_533.out
   have hnb25 := NB533_532.out
   have hnc25 := NB532_533.out
   obtain ⟨hcz26_0, hcz26_1, hcz26_2, hcz26_3, hcz26_4, hfz26_0, hfz26_1, hfz26_2, hfz26_3, hfz26_4⟩ := blk5 BK533.out
   go_wp2
   go_meet
   case rel => exact ⟨_, (17), H', ⟨by first | omega | exact Nat.le_refl _⟩, ⟨by (with_reducible repeat (first | refine blk_drewN ?_ _ | refine blk_drew ?_ | refine blk_alloc ?_ _)); refine blk_far ?_ NB514_533.out _; (with_reducible repeat (first | refine blk_drewN ?_ _ | refine blk_drew ?_ | refine blk_alloc ?_ _)); refine blk_far ?_ NB514_533.out _; (with_reducible repeat (first | refine blk_drewN ?_ _ | refine blk_drew ?_ | refine blk_alloc ?_ _)); refine blk_far ?_ NB514_533.out _; (with_reducible repeat (first | refine blk_drewN ?_ _ | refine blk_drew ?_ | refine blk_alloc ?_ _)); refine blk_far ?_ NB514_533.out _; (with_reducible repeat (first | refine blk_drewN ?_ _ | refine blk_drew ?_ | refine blk_alloc ?_ _)); refine blk_far ?_ NB514_533.out _; (with_reducible repeat (first | refine blk_drewN ?_ _ | refine blk_drew ?_ | refine blk_alloc ?_ _)); refine blk_far ?_ NB514_533.out _; (with_reducible repeat (first | refine blk_drewN ?_ _ | refine blk_drew ?_ | refine blk_alloc ?_ _)); exact BK514.out⟩, ⟨by (with_reducible repeat (first | refine blk_drewN ?_ _ | refine blk_drew ?_ | refine blk_alloc ?_ _)); refine blk_far ?_ NB532_533.out _; (with_reducible repeat (first | refine blk_drewN ?_ _ | refine blk_drew ?_ | refine blk_alloc ?_ _)); refine blk_far ?_ NB532_533.out _; (with_reducible repeat (first | refine blk_drewN ?_ _ | refine blk_drew ?_ | refine blk_alloc ?_ _)); refine blk_far ?_ NB532_533.out _; (with_reducible repeat (first | refine blk_drewN ?_ _ | refine blk_drew ?_ | refine blk_alloc ?_ _)); refine blk_far ?_ NB532_533.out _; (with_reducible repeat (first | refine blk_drewN ?_ _ | refine blk_drew ?_ | refine blk_alloc ?_ _)); refine blk_far ?_ NB532_533.out _; (with_reducible repeat (first | refine blk_drewN ?_ _ | refine blk_drew ?_ | refine blk_alloc ?_ _)); refine blk_far ?_ NB532_533.out _; (with_reducible repeat (first | refine blk_drewN ?_ _ | refine blk_drew ?_ | refine blk_alloc ?_ _)); exact BK532.out⟩, ⟨by (with_reducible repeat (first | refine blk_drewN ?_ _ | refine blk_drew ?_ | refine blk_alloc ?_ _)); refine blk_put (cs := #[.int .i64 6, .int .u32 a0_1, .int .u32 a0_2, .int .i64 (wrap64 (a0_3)), .int .i64 (wrap64 (a0_4))]) ?_ 0 _ rfl; (with_reducible repeat (first | refine blk_drewN ?_ _ | refine blk_drew ?_ | refine blk_alloc ?_ _)); refine blk_put (cs := #[.int .i64 6, .int .u32 a0_1, .int .u32 a0_2, .int .i64 (wrap64 (a0_3)), .int .i64 0]) ?_ 4 _ rfl; (with_reducible repeat (first | refine blk_drewN ?_ _ | refine blk_drew ?_ | refine blk_alloc ?_ _)); refine blk_put (cs := #[.int .i64 6, .int .u32 a0_1, .int .u32 a0_2, .int .i64 0, .int .i64 0]) ?_ 3 _ rfl; (with_reducible repeat (first | refine blk_drewN ?_ _ | refine blk_drew ?_ | refine blk_alloc ?_ _)); refine blk_put (cs := #[.int .i64 6, .int .u32 a0_1, .int .u32 0, .int .i64 0, .int .i64 0]) ?_ 2 _ rfl; (with_reducible repeat (first | refine blk_drewN ?_ _ | refine blk_drew ?_ | refine blk_alloc ?_ _)); refine blk_put (cs := #[.int .i64 6, .int .u32 0, .int .u32 0, .int .i64 0, .int .i64 0]) ?_ 1 _ rfl; (with_reducible repeat (first | refine blk_drewN ?_ _ | refine blk_drew ?_ | refine blk_alloc ?_ _)); refine blk_put (cs := #[.int .i64 0, .int .u32 0, .int .u32 0, .int .i64 0, .int .i64 0]) ?_ 0 _ rfl; (with_reducible repeat (first | refine blk_drewN ?_ _ | refine blk_drew ?_ | refine blk_alloc ?_ _)); exact BK533.out⟩, ⟨BW HB⟩⟩
  ·rw [if_neg c23] at H
   have c23b0 : ((Int.tmod a0_0 2) == 1) = false := beq_eq_false_iff_ne.mpr c23
   have c23b1 : ((Int.tmod a0_0 2) != 1) = true := bne_iff_ne.mpr c23
   (first | rw [c23b0] | (simp only [i64_w, i32_w]; rw [c23b0]) | skip)
   have H' := Aside0.mk H
   clear H
   go_wp2
   go_meet
   case rel => exact ⟨_, (6), H', ⟨by first | omega | exact Nat.le_refl _⟩, ⟨by (with_reducible repeat (first | refine blk_drewN ?_ _ | refine blk_drew ?_ | refine blk_alloc ?_ _)); refine blk_far ?_ NB514_533.out _; (with_reducible repeat (first | refine blk_drewN ?_ _ | refine blk_drew ?_ | refine blk_alloc ?_ _)); refine blk_far ?_ NB514_533.out _; (with_reducible repeat (first | refine blk_drewN ?_ _ | refine blk_drew ?_ | refine blk_alloc ?_ _)); refine blk_far ?_ NB514_533.out _; (with_reducible repeat (first | refine blk_drewN ?_ _ | refine blk_drew ?_ | refine blk_alloc ?_ _)); refine blk_far ?_ NB514_533.out _; (with_reducible repeat (first | refine blk_drewN ?_ _ | refine blk_drew ?_ | refine blk_alloc ?_ _)); refine blk_far ?_ NB514_533.out _; (with_reducible repeat (first | refine blk_drewN ?_ _ | refine blk_drew ?_ | refine blk_alloc ?_ _)); exact BK514.out⟩, ⟨by (with_reducible repeat (first | refine blk_drewN ?_ _ | refine blk_drew ?_ | refine blk_alloc ?_ _)); refine blk_far ?_ NB532_533.out _; (with_reducible repeat (first | refine blk_drewN ?_ _ | refine blk_drew ?_ | refine blk_alloc ?_ _)); refine blk_far ?_ NB532_533.out _; (with_reducible repeat (first | refine blk_drewN ?_ _ | refine blk_drew ?_ | refine blk_alloc ?_ _)); refine blk_far ?_ NB532_533.out _; (with_reducible repeat (first | refine blk_drewN ?_ _ | refine blk_drew ?_ | refine blk_alloc ?_ _)); refine blk_far ?_ NB532_533.out _; (with_reducible repeat (first | refine blk_drewN ?_ _ | refine blk_drew ?_ | refine blk_alloc ?_ _)); refine blk_far ?_ NB532_533.out _; (with_reducible repeat (first | refine blk_drewN ?_ _ | refine blk_drew ?_ | refine blk_alloc ?_ _)); exact BK532.out⟩, ⟨by (with_reducible repeat (first | refine blk_drewN ?_ _ | refine blk_drew ?_ | refine blk_alloc ?_ _)); refine blk_put (cs := #[.int .i64 6, .int .u32 a0_1, .int .u32 a0_2, .int .i64 (wrap64 (a0_3)), .int .i64 0]) ?_ 4 _ rfl; (with_reducible repeat (first | refine blk_drewN ?_ _ | refine blk_drew ?_ | refine blk_alloc ?_ _)); refine blk_put (cs := #[.int .i64 6, .int .u32 a0_1, .int .u32 a0_2, .int .i64 0, .int .i64 0]) ?_ 3 _ rfl; (with_reducible repeat (first | refine blk_drewN ?_ _ | refine blk_drew ?_ | refine blk_alloc ?_ _)); refine blk_put (cs := #[.int .i64 6, .int .u32 a0_1, .int .u32 0, .int .i64 0, .int .i64 0]) ?_ 2 _ rfl; (with_reducible repeat (first | refine blk_drewN ?_ _ | refine blk_drew ?_ | refine blk_alloc ?_ _)); refine blk_put (cs := #[.int .i64 6, .int .u32 0, .int .u32 0, .int .i64 0, .int .i64 0]) ?_ 1 _ rfl; (with_reducible repeat (first | refine blk_drewN ?_ _ | refine blk_drew ?_ | refine blk_alloc ?_ _)); refine blk_put (cs := #[.int .i64 0, .int .u32 0, .int .u32 0, .int .i64 0, .int .i64 0]) ?_ 0 _ rfl; (with_reducible repeat (first | refine blk_drewN ?_ _ | refine blk_drew ?_ | refine blk_alloc ?_ _)); exact BK533.out⟩, ⟨BW HB⟩⟩
 case rest =>
  clear HC8
  try clear c1
  try clear c2
  try clear p2
  try clear c4
  try clear c6
  try clear c6b0
  try clear c6b1
  try clear c6b2
  try clear p6
  try clear c9
  try clear c11
  try clear c12
  try clear c15
  try clear c19
  try clear c20
  try clear c23
  try clear c23b0
  try clear c23b1
  try clear c24
  try clear c25
  try clear hcz11_0
  try clear hcz11_1
  try clear hcz11_10
  try clear hcz11_2
  try clear hcz11_3
  try clear hcz11_4
  try clear hcz11_5
  try clear hcz11_6
  try clear hcz11_7
  try clear hcz11_8
  try clear hcz11_9
  try clear hcz16_0
  try clear hcz16_1
  try clear hcz16_10
  try clear hcz16_11
  try clear hcz16_12
  try clear hcz16_13
  try clear hcz16_2
  try clear hcz16_3
  try clear hcz16_4
  try clear hcz16_5
  try clear hcz16_6
  try clear hcz16_7
  try clear hcz16_8
  try clear hcz16_9
  try clear hcz17_0
  try clear hcz17_1
  try clear hcz17_10
  try clear hcz17_2
  try clear hcz17_3
  try clear hcz17_4
  try clear hcz17_5
  try clear hcz17_6
  try clear hcz17_7
  try clear hcz17_8
  try clear hcz17_9
  try clear hcz21_0
  try clear hcz21_1
  try clear hcz21_2
  try clear hcz21_3
  try clear hcz21_4
  try clear hcz22_0
  try clear hcz22_1
  try clear hcz22_10
  try clear hcz22_2
  try clear hcz22_3
  try clear hcz22_4
  try clear hcz22_5
  try clear hcz22_6
  try clear hcz22_7
  try clear hcz22_8
  try clear hcz22_9
  try clear hcz26_0
  try clear hcz26_1
  try clear hcz26_2
  try clear hcz26_3
  try clear hcz26_4
  try clear hfz11_0
  try clear hfz11_1
  try clear hfz11_10
  try clear hfz11_2
  try clear hfz11_3
  try clear hfz11_4
  try clear hfz11_5
  try clear hfz11_6
  try clear hfz11_7
  try clear hfz11_8
  try clear hfz11_9
  try clear hfz16_0
  try clear hfz16_1
  try clear hfz16_10
  try clear hfz16_11
  try clear hfz16_12
  try clear hfz16_13
  try clear hfz16_2
  try clear hfz16_3
  try clear hfz16_4
  try clear hfz16_5
  try clear hfz16_6
  try clear hfz16_7
  try clear hfz16_8
  try clear hfz16_9
  try clear hfz17_0
  try clear hfz17_1
  try clear hfz17_10
  try clear hfz17_2
  try clear hfz17_3
  try clear hfz17_4
  try clear hfz17_5
  try clear hfz17_6
  try clear hfz17_7
  try clear hfz17_8
  try clear hfz17_9
  try clear hfz21_0
  try clear hfz21_1
  try clear hfz21_2
  try clear hfz21_3
  try clear hfz21_4
  try clear hfz22_0
  try clear hfz22_1
  try clear hfz22_10
  try clear hfz22_2
  try clear hfz22_3
  try clear hfz22_4
  try clear hfz22_5
  try clear hfz22_6
  try clear hfz22_7
  try clear hfz22_8
  try clear hfz22_9
  try clear hfz26_0
  try clear hfz26_1
  try clear hfz26_2
  try clear hfz26_3
  try clear hfz26_4
  obtain ⟨kq, x534000_7, HA, HJ7, BK514, BK532, BK533, HB⟩ := hcut
  cases kq with
  | zero => exact absurd HA.out (by simp [weighbridgelaw09_PacketTells.j0])
  | succ kj7 =>
   have H := HA.out
   clear HA
   simp only [weighbridgelaw09_PacketTells.j0] at H
   have HC27 := Aside0.mk H
   clear H
   go_upto_region 9 with (fail)
   go_cut [65] (fun v65 wc => ∃ (kq : Nat) (x65_26 : Bool), v65 = .bool x65_26 ∧ Aside0 (weighbridgelaw09_PacketTells.j1 kq true x65_26 a0_0 a0_1 a0_2 a0_3 a0_4 a0_5 a0_6 a0_7 a0_8 a0_9 a0_10 t517 t518 t519 t520 t521 t522 t523 t524 t525 t526 t527 t528 t529 t530 = some r) ∧ Aside0 (kq ≤ kj7) ∧ Aside0 (wc.heap[gb514]? = some (.cells #[.int .u8 a0_0, .int .u32 a0_1, .int .u32 a0_2, .int .u16 a0_3, .int .u16 a0_4, .int .u8 a0_5, .int .u8 a0_6, .string a0_7, .bool a0_8, .int .u32 a0_9, .int .u32 a0_10] 25 (0, 0))) ∧ Aside0 (wc.heap[gb532]? = some (.cells #[.int .i64 t517, .int .i64 t518, .int .i64 t519, .int .i64 t520, .int .u32 t521, .int .u32 t522, .int .i64 t523, .int .i64 t524, .int .i64 t525, .int .i64 t526, .int .u32 t527, .int .u32 t528, .int .i64 t529, .int .i64 t530] 32 (0, 0))) ∧ Aside0 (wc.heap[gb533]? = some (.cells #[.int .i64 x534000_7, .int .u32 a0_1, .int .u32 a0_2, .int .i64 (wrap64 (a0_3)), .int .i64 (wrap64 (a0_4))] 30 (0, 0))) ∧ Aside0 (Below w.heap.size w wc))
   case first =>
    have H := HC27.out
    clear HC27
    by_cases c28 : t531 = 0
    ·rw [if_pos c28] at H
     have c28b0 : (t531 == 0) = true := beq_iff_eq.mpr c28
     have c28b1 : (t531 != 0) = false := bne_eq_false_iff_eq.mpr c28
     clear c28
     (first | rw [c28b0] | (simp only [i64_w, i32_w]; rw [c28b0]) | skip)
     by_cases c29 : (!(t520 == x534000_7) || (!(t521 == a0_1) || (!(t522 == a0_2) || (!(t523 == (wrap64 (a0_3))) || (!(t524 == (wrap64 (a0_4)))))))) = true
     ·rw [if_pos c29] at H
      have c29b0 : (!(t520 == x534000_7) || (!(t521 == a0_1) || (!(t522 == a0_2) || (!(t523 == (wrap64 (a0_3))) || (!(t524 == (wrap64 (a0_4)))))))) = true := c29
      clear c29
      have H' := Aside0.mk H
      clear H
      have hnb30 := NB532_514.out
      have hnc30 := NB514_532.out
      have hnb31 := NB532_533.out
      have hnc31 := NB533_532.out
      obtain ⟨hcz32_0, hcz32_1, hcz32_2, hcz32_3, hcz32_4, hcz32_5, hcz32_6, hcz32_7, hcz32_8, hcz32_9, hcz32_10, hcz32_11, hcz32_12, hcz32_13, hfz32_0, hfz32_1, hfz32_2, hfz32_3, hfz32_4, hfz32_5, hfz32_6, hfz32_7, hfz32_8, hfz32_9, hfz32_10, hfz32_11, hfz32_12, hfz32_13⟩ := blk14 BK532.out
      have hnb33 := NB533_514.out
      have hnc33 := NB514_533.out
      obtain ⟨hcz34_0, hcz34_1, hcz34_2, hcz34_3, hcz34_4, hfz34_0, hfz34_1, hfz34_2, hfz34_3, hfz34_4⟩ := blk5 BK533.out
      go_wp2
      go_meet
      case rel => exact ⟨_, (true), (by first | rfl | (simp; done) | (congr 2; simp only [ByteArray.size_extract, ByteArray.size_append]; (try have := of_eq_true c6b0); (try unfold wrap64); omega) | (simp only [ByteArray.size_extract, ByteArray.size_append, Nat.sub_zero]; done) | (congr 1; simp only [ByteArray.size_extract, ByteArray.size_append, Nat.sub_zero]; (try have := of_eq_true c6b0); omega) | (simp [*]; done)), H', ⟨by have := HJ7.out; first | omega | exact Nat.le_refl _⟩, ⟨BD BK514⟩, ⟨BD BK532⟩, ⟨BD BK533⟩, ⟨BW HB⟩⟩
     ·rw [if_neg c29] at H
      have c29b0 : (!(t520 == x534000_7) || (!(t521 == a0_1) || (!(t522 == a0_2) || (!(t523 == (wrap64 (a0_3))) || (!(t524 == (wrap64 (a0_4)))))))) = false := by simpa using c29
      clear c29
      by_cases c35 : t519 = (t516.size : Int)
      ·rw [if_pos c35] at H
       have c35b0 : (t519 == (t516.size : Int)) = true := beq_iff_eq.mpr c35
       have c35b1 : (t519 != (t516.size : Int)) = false := bne_eq_false_iff_eq.mpr c35
       clear c35
       by_cases c36 : t518 = 20
       ·rw [if_pos c36] at H
        have c36b0 : (t518 == 20) = true := beq_iff_eq.mpr c36
        have c36b1 : (t518 != 20) = false := bne_eq_false_iff_eq.mpr c36
        clear c36
        have H' := Aside0.mk H
        clear H
        have hnb37 := NB532_514.out
        have hnc37 := NB514_532.out
        have hnb38 := NB532_533.out
        have hnc38 := NB533_532.out
        obtain ⟨hcz39_0, hcz39_1, hcz39_2, hcz39_3, hcz39_4, hcz39_5, hcz39_6, hcz39_7, hcz39_8, hcz39_9, hcz39_10, hcz39_11, hcz39_12, hcz39_13, hfz39_0, hfz39_1, hfz39_2, hfz39_3, hfz39_4, hfz39_5, hfz39_6, hfz39_7, hfz39_8, hfz39_9, hfz39_10, hfz39_11, hfz39_12, hfz39_13⟩ := blk14 BK532.out
        have hnb40 := NB533_514.out
        have hnc40 := NB514_533.out
        obtain ⟨hcz41_0, hcz41_1, hcz41_2, hcz41_3, hcz41_4, hfz41_0, hfz41_1, hfz41_2, hfz41_3, hfz41_4⟩ := blk5 BK533.out
        obtain ⟨hcz42_0, hcz42_1, hcz42_2, hcz42_3, hcz42_4, hcz42_5, hcz42_6, hcz42_7, hcz42_8, hcz42_9, hcz42_10, hfz42_0, hfz42_1, hfz42_2, hfz42_3, hfz42_4, hfz42_5, hfz42_6, hfz42_7, hfz42_8, hfz42_9, hfz42_10⟩ := blk11 BK514.out
        go_wp2
        go_meet
        case rel => exact ⟨_, ((t526 != (wrap64 (a0_6)))), (by first | rfl | (simp; done) | (congr 2; simp only [ByteArray.size_extract, ByteArray.size_append]; (try have := of_eq_true c6b0); (try unfold wrap64); omega) | (simp only [ByteArray.size_extract, ByteArray.size_append, Nat.sub_zero]; done) | (congr 1; simp only [ByteArray.size_extract, ByteArray.size_append, Nat.sub_zero]; (try have := of_eq_true c6b0); omega) | (simp [*]; done)), H', ⟨by have := HJ7.out; first | omega | exact Nat.le_refl _⟩, ⟨BD BK514⟩, ⟨BD BK532⟩, ⟨BD BK533⟩, ⟨BW HB⟩⟩
       ·rw [if_neg c36] at H
        have c36b0 : (t518 == 20) = false := beq_eq_false_iff_ne.mpr c36
        have c36b1 : (t518 != 20) = true := bne_iff_ne.mpr c36
        have H' := Aside0.mk H
        clear H
        have hnb43 := NB532_514.out
        have hnc43 := NB514_532.out
        have hnb44 := NB532_533.out
        have hnc44 := NB533_532.out
        obtain ⟨hcz45_0, hcz45_1, hcz45_2, hcz45_3, hcz45_4, hcz45_5, hcz45_6, hcz45_7, hcz45_8, hcz45_9, hcz45_10, hcz45_11, hcz45_12, hcz45_13, hfz45_0, hfz45_1, hfz45_2, hfz45_3, hfz45_4, hfz45_5, hfz45_6, hfz45_7, hfz45_8, hfz45_9, hfz45_10, hfz45_11, hfz45_12, hfz45_13⟩ := blk14 BK532.out
        have hnb46 := NB533_514.out
        have hnc46 := NB514_533.out
        obtain ⟨hcz47_0, hcz47_1, hcz47_2, hcz47_3, hcz47_4, hfz47_0, hfz47_1, hfz47_2, hfz47_3, hfz47_4⟩ := blk5 BK533.out
        go_wp2
        go_meet
        case rel => exact ⟨_, (true), (by first | rfl | (simp; done) | (congr 2; simp only [ByteArray.size_extract, ByteArray.size_append]; (try have := of_eq_true c6b0); (try unfold wrap64); omega) | (simp only [ByteArray.size_extract, ByteArray.size_append, Nat.sub_zero]; done) | (congr 1; simp only [ByteArray.size_extract, ByteArray.size_append, Nat.sub_zero]; (try have := of_eq_true c6b0); omega) | (simp [*]; done)), H', ⟨by have := HJ7.out; first | omega | exact Nat.le_refl _⟩, ⟨BD BK514⟩, ⟨BD BK532⟩, ⟨BD BK533⟩, ⟨BW HB⟩⟩
      ·rw [if_neg c35] at H
       have c35b0 : (t519 == (t516.size : Int)) = false := beq_eq_false_iff_ne.mpr c35
       have c35b1 : (t519 != (t516.size : Int)) = true := bne_iff_ne.mpr c35
       have H' := Aside0.mk H
       clear H
       have hnb48 := NB532_514.out
       have hnc48 := NB514_532.out
       have hnb49 := NB532_533.out
       have hnc49 := NB533_532.out
       obtain ⟨hcz50_0, hcz50_1, hcz50_2, hcz50_3, hcz50_4, hcz50_5, hcz50_6, hcz50_7, hcz50_8, hcz50_9, hcz50_10, hcz50_11, hcz50_12, hcz50_13, hfz50_0, hfz50_1, hfz50_2, hfz50_3, hfz50_4, hfz50_5, hfz50_6, hfz50_7, hfz50_8, hfz50_9, hfz50_10, hfz50_11, hfz50_12, hfz50_13⟩ := blk14 BK532.out
       have hnb51 := NB533_514.out
       have hnc51 := NB514_533.out
       obtain ⟨hcz52_0, hcz52_1, hcz52_2, hcz52_3, hcz52_4, hfz52_0, hfz52_1, hfz52_2, hfz52_3, hfz52_4⟩ := blk5 BK533.out
       go_wp2
       go_meet
       case rel => exact ⟨_, (true), (by first | rfl | (simp; done) | (congr 2; simp only [ByteArray.size_extract, ByteArray.size_append]; (try have := of_eq_true c6b0); (try unfold wrap64); omega) | (simp only [ByteArray.size_extract, ByteArray.size_append, Nat.sub_zero]; done) | (congr 1; simp only [ByteArray.size_extract, ByteArray.size_append, Nat.sub_zero]; (try have := of_eq_true c6b0); omega) | (simp [*]; done)), H', ⟨by have := HJ7.out; first | omega | exact Nat.le_refl _⟩, ⟨BD BK514⟩, ⟨BD BK532⟩, ⟨BD BK533⟩, ⟨BW HB⟩⟩
    ·rw [if_neg c28] at H
     have c28b0 : (t531 == 0) = false := beq_eq_false_iff_ne.mpr c28
     have c28b1 : (t531 != 0) = true := bne_iff_ne.mpr c28
     (first | rw [c28b0] | (simp only [i64_w, i32_w]; rw [c28b0]) | skip)
     have H' := Aside0.mk H
     clear H
     go_wp2
     go_meet
     case rel => exact ⟨_, (true), (by first | rfl | (simp; done) | (congr 2; simp only [ByteArray.size_extract, ByteArray.size_append]; (try have := of_eq_true c6b0); (try unfold wrap64); omega) | (simp only [ByteArray.size_extract, ByteArray.size_append, Nat.sub_zero]; done) | (congr 1; simp only [ByteArray.size_extract, ByteArray.size_append, Nat.sub_zero]; (try have := of_eq_true c6b0); omega) | (simp [*]; done)), H', ⟨by have := HJ7.out; first | omega | exact Nat.le_refl _⟩, ⟨BD BK514⟩, ⟨BD BK532⟩, ⟨BD BK533⟩, ⟨BW HB⟩⟩
   case rest =>
    clear HC27
    try clear c1
    try clear c2
    try clear p2
    try clear c3
    try clear c4
    try clear c5
    try clear c6
    try clear c6b0
    try clear c6b1
    try clear c6b2
    try clear p6
    try clear c9
    try clear c11
    try clear c12
    try clear c15
    try clear c19
    try clear c20
    try clear c23
    try clear c23b0
    try clear c23b1
    try clear c24
    try clear c25
    try clear c28
    try clear c28b0
    try clear c28b1
    try clear c29
    try clear c29b0
    try clear c30
    try clear c31
    try clear c33
    try clear c35
    try clear c35b0
    try clear c35b1
    try clear c36
    try clear c36b0
    try clear c36b1
    try clear c37
    try clear c38
    try clear c40
    try clear c43
    try clear c44
    try clear c46
    try clear c48
    try clear c49
    try clear c51
    try clear hcz11_0
    try clear hcz11_1
    try clear hcz11_10
    try clear hcz11_2
    try clear hcz11_3
    try clear hcz11_4
    try clear hcz11_5
    try clear hcz11_6
    try clear hcz11_7
    try clear hcz11_8
    try clear hcz11_9
    try clear hcz16_0
    try clear hcz16_1
    try clear hcz16_10
    try clear hcz16_11
    try clear hcz16_12
    try clear hcz16_13
    try clear hcz16_2
    try clear hcz16_3
    try clear hcz16_4
    try clear hcz16_5
    try clear hcz16_6
    try clear hcz16_7
    try clear hcz16_8
    try clear hcz16_9
    try clear hcz17_0
    try clear hcz17_1
    try clear hcz17_10
    try clear hcz17_2
    try clear hcz17_3
    try clear hcz17_4
    try clear hcz17_5
    try clear hcz17_6
    try clear hcz17_7
    try clear hcz17_8
    try clear hcz17_9
    try clear hcz21_0
    try clear hcz21_1
    try clear hcz21_2
    try clear hcz21_3
    try clear hcz21_4
    try clear hcz22_0
    try clear hcz22_1
    try clear hcz22_10
    try clear hcz22_2
    try clear hcz22_3
    try clear hcz22_4
    try clear hcz22_5
    try clear hcz22_6
    try clear hcz22_7
    try clear hcz22_8
    try clear hcz22_9
    try clear hcz26_0
    try clear hcz26_1
    try clear hcz26_2
    try clear hcz26_3
    try clear hcz26_4
    try clear hcz32_0
    try clear hcz32_1
    try clear hcz32_10
    try clear hcz32_11
    try clear hcz32_12
    try clear hcz32_13
    try clear hcz32_2
    try clear hcz32_3
    try clear hcz32_4
    try clear hcz32_5
    try clear hcz32_6
    try clear hcz32_7
    try clear hcz32_8
    try clear hcz32_9
    try clear hcz34_0
    try clear hcz34_1
    try clear hcz34_2
    try clear hcz34_3
    try clear hcz34_4
    try clear hcz39_0
    try clear hcz39_1
    try clear hcz39_10
    try clear hcz39_11
    try clear hcz39_12
    try clear hcz39_13
    try clear hcz39_2
    try clear hcz39_3
    try clear hcz39_4
    try clear hcz39_5
    try clear hcz39_6
    try clear hcz39_7
    try clear hcz39_8
    try clear hcz39_9
    try clear hcz41_0
    try clear hcz41_1
    try clear hcz41_2
    try clear hcz41_3
    try clear hcz41_4
    try clear hcz42_0
    try clear hcz42_1
    try clear hcz42_10
    try clear hcz42_2
    try clear hcz42_3
    try clear hcz42_4
    try clear hcz42_5
    try clear hcz42_6
    try clear hcz42_7
    try clear hcz42_8
    try clear hcz42_9
    try clear hcz45_0
    try clear hcz45_1
    try clear hcz45_10
    try clear hcz45_11
    try clear hcz45_12
    try clear hcz45_13
    try clear hcz45_2
    try clear hcz45_3
    try clear hcz45_4
    try clear hcz45_5
    try clear hcz45_6
    try clear hcz45_7
    try clear hcz45_8
    try clear hcz45_9
    try clear hcz47_0
    try clear hcz47_1
    try clear hcz47_2
    try clear hcz47_3
    try clear hcz47_4
    try clear hcz50_0
    try clear hcz50_1
    try clear hcz50_10
    try clear hcz50_11
    try clear hcz50_12
    try clear hcz50_13
    try clear hcz50_2
    try clear hcz50_3
    try clear hcz50_4
    try clear hcz50_5
    try clear hcz50_6
    try clear hcz50_7
    try clear hcz50_8
    try clear hcz50_9
    try clear hcz52_0
    try clear hcz52_1
    try clear hcz52_2
    try clear hcz52_3
    try clear hcz52_4
    try clear hfz11_0
    try clear hfz11_1
    try clear hfz11_10
    try clear hfz11_2
    try clear hfz11_3
    try clear hfz11_4
    try clear hfz11_5
    try clear hfz11_6
    try clear hfz11_7
    try clear hfz11_8
    try clear hfz11_9
    try clear hfz16_0
    try clear hfz16_1
    try clear hfz16_10
    try clear hfz16_11
    try clear hfz16_12
    try clear hfz16_13
    try clear hfz16_2
    try clear hfz16_3
    try clear hfz16_4
    try clear hfz16_5
    try clear hfz16_6
    try clear hfz16_7
    try clear hfz16_8
    try clear hfz16_9
    try clear hfz17_0
    try clear hfz17_1
    try clear hfz17_10
    try clear hfz17_2
    try clear hfz17_3
    try clear hfz17_4
    try clear hfz17_5
    try clear hfz17_6
    try clear hfz17_7
    try clear hfz17_8
    try clear hfz17_9
    try clear hfz21_0
    try clear hfz21_1
    try clear hfz21_2
    try clear hfz21_3
    try clear hfz21_4
    try clear hfz22_0
    try clear hfz22_1
    try clear hfz22_10
    try clear hfz22_2
    try clear hfz22_3
    try clear hfz22_4
    try clear hfz22_5
    try clear hfz22_6
    try clear hfz22_7
    try clear hfz22_8
    try clear hfz22_9
    try clear hfz26_0
    try clear hfz26_1
    try clear hfz26_2
    try clear hfz26_3
    try clear hfz26_4
    try clear hfz32_0
    try clear hfz32_1
    try clear hfz32_10
    try clear hfz32_11
    try clear hfz32_12
    try clear hfz32_13
    try clear hfz32_2
    try clear hfz32_3
    try clear hfz32_4
    try clear hfz32_5
    try clear hfz32_6
    try clear hfz32_7
    try clear hfz32_8
    try clear hfz32_9
    try clear hfz34_0
    try clear hfz34_1
    try clear hfz34_2
    try clear hfz34_3
    try clear hfz34_4
    try clear hfz39_0
    try clear hfz39_1
    try clear hfz39_10
    try clear hfz39_11
    try clear hfz39_12
    try clear hfz39_13
    try clear hfz39_2
    try clear hfz39_3
    try clear hfz39_4
    try clear hfz39_5
    try clear hfz39_6
    try clear hfz39_7
    try clear hfz39_8
    try clear hfz39_9
    try clear hfz41_0
    try clear hfz41_1
    try clear hfz41_2
    try clear hfz41_3
    try clear hfz41_4
    try clear hfz42_0
    try clear hfz42_1
    try clear hfz42_10
    try clear hfz42_2
    try clear hfz42_3
    try clear hfz42_4
    try clear hfz42_5
    try clear hfz42_6
    try clear hfz42_7
    try clear hfz42_8
    try clear hfz42_9
    try clear hfz45_0
    try clear hfz45_1
    try clear hfz45_10
    try clear hfz45_11
    try clear hfz45_12
    try clear hfz45_13
    try clear hfz45_2
    try clear hfz45_3
    try clear hfz45_4
    try clear hfz45_5
    try clear hfz45_6
    try clear hfz45_7
    try clear hfz45_8
    try clear hfz45_9
    try clear hfz47_0
    try clear hfz47_1
    try clear hfz47_2
    try clear hfz47_3
    try clear hfz47_4
    try clear hfz50_0
    try clear hfz50_1
    try clear hfz50_10
    try clear hfz50_11
    try clear hfz50_12
    try clear hfz50_13
    try clear hfz50_2
    try clear hfz50_3
    try clear hfz50_4
    try clear hfz50_5
    try clear hfz50_6
    try clear hfz50_7
    try clear hfz50_8
    try clear hfz50_9
    try clear hfz52_0
    try clear hfz52_1
    try clear hfz52_2
    try clear hfz52_3
    try clear hfz52_4
    try clear p2
    try clear p6
    obtain ⟨kq, x65_26, rfl, HA, HJ26, BK514, BK532, BK533, HB⟩ := hcut
    cases kq with
    | zero => exact absurd HA.out (by simp [weighbridgelaw09_PacketTells.j1])
    | succ kj26 =>
     have H := HA.out
     clear HA
     simp only [weighbridgelaw09_PacketTells.j1] at H
     by_cases c53 : x65_26 = true
     ·subst c53
      first | rw [if_pos rfl] at H | rw [if_pos trivial] at H
      exact absurd ((Option.some.inj H).trans hr_) (by decide)
     ·replace c53 := Bool.eq_false_iff.mpr c53
      subst c53
      have H1 : (if (Int.tmod a0_0 4) < 2 then (if true = true then (if t517 = 1 then (if t527 = a0_1 then (if t528 = a0_2 then (if t529 = 0 then (if (Int.tmod a0_0 2) = 1 then (some true) else (some (t525 == (wrap64 (Int.tmod a0_5 64))))) else (some false)) else (some false)) else (some false)) else (some false)) else (some false)) else (if true = true then (if t517 = 2 then (if t527 = a0_9 then (if t528 = a0_10 then (if t529 = 28 then (if t530 = 48 then (some (t525 == 0)) else (some false)) else (some false)) else (some false)) else (some false)) else (some false)) else (some false))) = some r := by rw [if_neg (show ¬ (false = true) by decide)] at H; exact H
      clear H
      have H := H1
      clear H1
      by_cases c54 : (Int.tmod a0_0 4) < 2
      ·rw [if_pos c54] at H
       have c54b0 : decide ((Int.tmod a0_0 4) < 2) = true := decide_eq_true c54
       clear c54
       have c55 : true = true := rfl
       ·clear c55
        first | rw [if_pos rfl] at H | rw [if_pos trivial] at H
        by_cases c56 : t517 = 1
        ·rw [if_pos c56] at H
         have c56b0 : (t517 == 1) = true := beq_iff_eq.mpr c56
         have c56b1 : (t517 != 1) = false := bne_eq_false_iff_eq.mpr c56
         clear c56
         by_cases c57 : t527 = a0_1
         ·rw [if_pos c57] at H
          have c57b0 : (t527 == a0_1) = true := beq_iff_eq.mpr c57
          have c57b1 : (t527 != a0_1) = false := bne_eq_false_iff_eq.mpr c57
          clear c57
          by_cases c58 : t528 = a0_2
          ·rw [if_pos c58] at H
           have c58b0 : (t528 == a0_2) = true := beq_iff_eq.mpr c58
           have c58b1 : (t528 != a0_2) = false := bne_eq_false_iff_eq.mpr c58
           clear c58
           by_cases c59 : t529 = 0
           ·rw [if_pos c59] at H
            have c59b0 : (t529 == 0) = true := beq_iff_eq.mpr c59
            have c59b1 : (t529 != 0) = false := bne_eq_false_iff_eq.mpr c59
            clear c59
            by_cases c60 : (Int.tmod a0_0 2) = 1
            ·rw [if_pos c60] at H
             have c60b0 : ((Int.tmod a0_0 2) == 1) = true := beq_iff_eq.mpr c60
             have c60b1 : ((Int.tmod a0_0 2) != 1) = false := bne_eq_false_iff_eq.mpr c60
             clear c60
             obtain rfl := Option.some.inj H
             have hnb61 := NB514_532.out
             have hnc61 := NB532_514.out
             have hnb62 := NB514_533.out
             have hnc62 := NB533_514.out
             obtain ⟨hcz63_0, hcz63_1, hcz63_2, hcz63_3, hcz63_4, hcz63_5, hcz63_6, hcz63_7, hcz63_8, hcz63_9, hcz63_10, hfz63_0, hfz63_1, hfz63_2, hfz63_3, hfz63_4, hfz63_5, hfz63_6, hfz63_7, hfz63_8, hfz63_9, hfz63_10⟩ := blk11 BK514.out
             have hnb64 := NB532_533.out
             have hnc64 := NB533_532.out
             obtain ⟨hcz65_0, hcz65_1, hcz65_2, hcz65_3, hcz65_4, hcz65_5, hcz65_6, hcz65_7, hcz65_8, hcz65_9, hcz65_10, hcz65_11, hcz65_12, hcz65_13, hfz65_0, hfz65_1, hfz65_2, hfz65_3, hfz65_4, hfz65_5, hfz65_6, hfz65_7, hfz65_8, hfz65_9, hfz65_10, hfz65_11, hfz65_12, hfz65_13⟩ := blk14 BK532.out
             go_wp2
             go_ret
             exact ⟨RT, BW HB⟩
            ·rw [if_neg c60] at H
             have c60b0 : ((Int.tmod a0_0 2) == 1) = false := beq_eq_false_iff_ne.mpr c60
             have c60b1 : ((Int.tmod a0_0 2) != 1) = true := bne_iff_ne.mpr c60
             obtain rfl := Option.some.inj H
             have hnb66 := NB514_532.out
             have hnc66 := NB532_514.out
             have hnb67 := NB514_533.out
             have hnc67 := NB533_514.out
             obtain ⟨hcz68_0, hcz68_1, hcz68_2, hcz68_3, hcz68_4, hcz68_5, hcz68_6, hcz68_7, hcz68_8, hcz68_9, hcz68_10, hfz68_0, hfz68_1, hfz68_2, hfz68_3, hfz68_4, hfz68_5, hfz68_6, hfz68_7, hfz68_8, hfz68_9, hfz68_10⟩ := blk11 BK514.out
             have hnb69 := NB532_533.out
             have hnc69 := NB533_532.out
             obtain ⟨hcz70_0, hcz70_1, hcz70_2, hcz70_3, hcz70_4, hcz70_5, hcz70_6, hcz70_7, hcz70_8, hcz70_9, hcz70_10, hcz70_11, hcz70_12, hcz70_13, hfz70_0, hfz70_1, hfz70_2, hfz70_3, hfz70_4, hfz70_5, hfz70_6, hfz70_7, hfz70_8, hfz70_9, hfz70_10, hfz70_11, hfz70_12, hfz70_13⟩ := blk14 BK532.out
             go_wp2
             go_ret
             exact ⟨RT, BW HB⟩
           ·rw [if_neg c59] at H
            have c59b0 : (t529 == 0) = false := beq_eq_false_iff_ne.mpr c59
            have c59b1 : (t529 != 0) = true := bne_iff_ne.mpr c59
            exact absurd ((Option.some.inj H).trans hr_) (by decide)
          ·rw [if_neg c58] at H
           have c58b0 : (t528 == a0_2) = false := beq_eq_false_iff_ne.mpr c58
           have c58b1 : (t528 != a0_2) = true := bne_iff_ne.mpr c58
           exact absurd ((Option.some.inj H).trans hr_) (by decide)
         ·rw [if_neg c57] at H
          have c57b0 : (t527 == a0_1) = false := beq_eq_false_iff_ne.mpr c57
          have c57b1 : (t527 != a0_1) = true := bne_iff_ne.mpr c57
          exact absurd ((Option.some.inj H).trans hr_) (by decide)
        ·rw [if_neg c56] at H
         have c56b0 : (t517 == 1) = false := beq_eq_false_iff_ne.mpr c56
         have c56b1 : (t517 != 1) = true := bne_iff_ne.mpr c56
         exact absurd ((Option.some.inj H).trans hr_) (by decide)
      ·rw [if_neg c54] at H
       have c54b0 : decide ((Int.tmod a0_0 4) < 2) = false := decide_eq_false c54
       clear c54
       have c71 : true = true := rfl
       ·clear c71
        first | rw [if_pos rfl] at H | rw [if_pos trivial] at H
        by_cases c72 : t517 = 2
        ·rw [if_pos c72] at H
         have c72b0 : (t517 == 2) = true := beq_iff_eq.mpr c72
         have c72b1 : (t517 != 2) = false := bne_eq_false_iff_eq.mpr c72
         clear c72
         by_cases c73 : t527 = a0_9
         ·rw [if_pos c73] at H
          have c73b0 : (t527 == a0_9) = true := beq_iff_eq.mpr c73
          have c73b1 : (t527 != a0_9) = false := bne_eq_false_iff_eq.mpr c73
          clear c73
          by_cases c74 : t528 = a0_10
          ·rw [if_pos c74] at H
           have c74b0 : (t528 == a0_10) = true := beq_iff_eq.mpr c74
           have c74b1 : (t528 != a0_10) = false := bne_eq_false_iff_eq.mpr c74
           clear c74
           by_cases c75 : t529 = 28
           ·rw [if_pos c75] at H
            have c75b0 : (t529 == 28) = true := beq_iff_eq.mpr c75
            have c75b1 : (t529 != 28) = false := bne_eq_false_iff_eq.mpr c75
            clear c75
            by_cases c76 : t530 = 48
            ·rw [if_pos c76] at H
             have c76b0 : (t530 == 48) = true := beq_iff_eq.mpr c76
             have c76b1 : (t530 != 48) = false := bne_eq_false_iff_eq.mpr c76
             clear c76
             obtain rfl := Option.some.inj H
             have hnb77 := NB514_532.out
             have hnc77 := NB532_514.out
             have hnb78 := NB514_533.out
             have hnc78 := NB533_514.out
             obtain ⟨hcz79_0, hcz79_1, hcz79_2, hcz79_3, hcz79_4, hcz79_5, hcz79_6, hcz79_7, hcz79_8, hcz79_9, hcz79_10, hfz79_0, hfz79_1, hfz79_2, hfz79_3, hfz79_4, hfz79_5, hfz79_6, hfz79_7, hfz79_8, hfz79_9, hfz79_10⟩ := blk11 BK514.out
             have hnb80 := NB532_533.out
             have hnc80 := NB533_532.out
             obtain ⟨hcz81_0, hcz81_1, hcz81_2, hcz81_3, hcz81_4, hcz81_5, hcz81_6, hcz81_7, hcz81_8, hcz81_9, hcz81_10, hcz81_11, hcz81_12, hcz81_13, hfz81_0, hfz81_1, hfz81_2, hfz81_3, hfz81_4, hfz81_5, hfz81_6, hfz81_7, hfz81_8, hfz81_9, hfz81_10, hfz81_11, hfz81_12, hfz81_13⟩ := blk14 BK532.out
             go_wp2
             go_ret
             exact ⟨RT, BW HB⟩
            ·rw [if_neg c76] at H
             have c76b0 : (t530 == 48) = false := beq_eq_false_iff_ne.mpr c76
             have c76b1 : (t530 != 48) = true := bne_iff_ne.mpr c76
             exact absurd ((Option.some.inj H).trans hr_) (by decide)
           ·rw [if_neg c75] at H
            have c75b0 : (t529 == 28) = false := beq_eq_false_iff_ne.mpr c75
            have c75b1 : (t529 != 28) = true := bne_iff_ne.mpr c75
            exact absurd ((Option.some.inj H).trans hr_) (by decide)
          ·rw [if_neg c74] at H
           have c74b0 : (t528 == a0_10) = false := beq_eq_false_iff_ne.mpr c74
           have c74b1 : (t528 != a0_10) = true := bne_iff_ne.mpr c74
           exact absurd ((Option.some.inj H).trans hr_) (by decide)
         ·rw [if_neg c73] at H
          have c73b0 : (t527 == a0_9) = false := beq_eq_false_iff_ne.mpr c73
          have c73b1 : (t527 != a0_9) = true := bne_iff_ne.mpr c73
          exact absurd ((Option.some.inj H).trans hr_) (by decide)
        ·rw [if_neg c72] at H
         have c72b0 : (t517 == 2) = false := beq_eq_false_iff_ne.mpr c72
         have c72b1 : (t517 != 2) = true := bne_iff_ne.mpr c72
         exact absurd ((Option.some.inj H).trans hr_) (by decide)

/-- THE ONE PURE STATEMENT of weighbridgelaw09_PacketTells: yours. -/
def weighbridgelaw09_PacketTells.Pure : Prop := ∀ (a0_0 : Int) (a0_1 : Int) (a0_2 : Int) (a0_3 : Int) (a0_4 : Int) (a0_5 : Int) (a0_6 : Int) (a0_7 : ByteArray) (a0_8 : Bool) (a0_9 : Int) (a0_10 : Int) (a1 : ByteArray), (Lit.int .u8 a0_0).wf = true → (Lit.int .u32 a0_1).wf = true → (Lit.int .u32 a0_2).wf = true → (Lit.int .u16 a0_3).wf = true → (Lit.int .u16 a0_4).wf = true → (Lit.int .u8 a0_5).wf = true → (Lit.int .u8 a0_6).wf = true → a0_7.size ≤ 140737488351232 → (Lit.int .u32 a0_9).wf = true → (Lit.int .u32 a0_10).wf = true → a1.size ≤ 140737488351232 → ∃ k, weighbridgelaw09_PacketTells.f k a0_0 a0_1 a0_2 a0_3 a0_4 a0_5 a0_6 a0_7 a0_8 a0_9 a0_10 a1 = some true
theorem weighbridgelaw09_PacketTells.walk (P : weighbridgelaw09_PacketTells.Pure) (a0_0 : Int) (a0_1 : Int) (a0_2 : Int) (a0_3 : Int) (a0_4 : Int) (a0_5 : Int) (a0_6 : Int) (a0_7 : ByteArray) (a0_8 : Bool) (a0_9 : Int) (a0_10 : Int) (a1 : ByteArray) (w : World) (w0_0 : (Lit.int .u8 a0_0).wf = true) (w0_1 : (Lit.int .u32 a0_1).wf = true) (w0_2 : (Lit.int .u32 a0_2).wf = true) (w0_3 : (Lit.int .u16 a0_3).wf = true) (w0_4 : (Lit.int .u16 a0_4).wf = true) (w0_5 : (Lit.int .u8 a0_5).wf = true) (w0_6 : (Lit.int .u8 a0_6).wf = true) (w0_7 : a0_7.size ≤ 140737488351232) (w0_9 : (Lit.int .u32 a0_9).wf = true) (w0_10 : (Lit.int .u32 a0_10).wf = true) (w1 : a1.size ≤ 140737488351232) :
  Calls Try.prog 4 #[.agg #[.int .u8 a0_0, .int .u32 a0_1, .int .u32 a0_2, .int .u16 a0_3, .int .u16 a0_4, .int .u8 a0_5, .int .u8 a0_6, .string a0_7, .bool a0_8, .int .u32 a0_9, .int .u32 a0_10], .string a1] w fun e w' => e = .returned (.bool true) ∧ Below w.heap.size w w' := by
 obtain ⟨k, h⟩ := P a0_0 a0_1 a0_2 a0_3 a0_4 a0_5 a0_6 a0_7 a0_8 a0_9 a0_10 a1 w0_0 w0_1 w0_2 w0_3 w0_4 w0_5 w0_6 w0_7 w0_9 w0_10 w1
 refine (weighbridgelaw09_PacketTells.calls k a0_0 a0_1 a0_2 a0_3 a0_4 a0_5 a0_6 a0_7 a0_8 a0_9 a0_10 a1 true w h rfl).mono ?_
 rintro e w' ⟨rfl, hd⟩
 exact ⟨rfl, hd⟩
end Go.Proofs.Ytkganedlhcepfaa.Pr
