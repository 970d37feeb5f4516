-- trimmed by trims.py
-- Written by a program of the session (wip/tools) out of the translation, over the kit's print; with pieces of the session's own.
import Derived.Test.YtkganedlhcepfaaPr0
import Derived.Test.YtkganedlhcepfaaPr9
import Derived.Test.YtkganedlhcepfaaPr10
import Derived.Test.YtkganedlhcepfaaPr18
import Derived.Test.YtkganedlhcepfaaPr21
namespace Go.Proofs.Ytkganedlhcepfaa.Pr
open Go.RowKit Go.Proofs.YtkganedlhcepfaaW.PrintWords Go.Proofs.YtkganedlhcepfaaW.PrintLast Go.Proofs.YtkganedlhcepfaaW.PrintMore
attribute [local go_sem] max2_int min2_int max_two min_two max_three min_three max_four min_four   -- for this text's walks alone
set_option linter.unusedVariables false
set_option linter.unusedSimpArgs false
open Go.Proofs.Ytkganedlhcepfaa.Sp
/-! ### weighbridgelaw09_PacketClassifies: function 3 -/
def weighbridgelaw09_PacketClassifies.f (k : Nat) (a0_0 : Int) (a0_1 : Int) (a0_2 : Int) (a0_3 : Int) (a0_4 : Int) (a0_5 : Int) (a0_6 : Int) (a0_7 : ByteArray) (a0_8 : Bool) (a0_9 : Int) (a0_10 : Int) (a1 : Int) (a2 : Int) (a3 : ByteArray) (a4 : ByteArray) (a5 : Bool) : Option (Bool) := (weighbridgelaw09_examples.f).bind fun t445 => (if t445 = true then (if a5 = true then ((weighbridgelaw09_Make_frame.f a0_0 a0_1 a0_2 a0_3 a0_4 a0_5 a0_6 a0_7 a0_8 a0_9 a0_10).bind fun t446 => ((weighbridgelaw09_broken.f t446 a1 a2).bind fun t447 => (if t447.size + a3.size ≤ 9223372036854775807 then ((packet_Classify.f (t447 ++ a3)).bind fun bt448 => ((weighbridgeref09_Classify.f k (t447 ++ a3)).bind fun bt464 => ((weighbridgelaw09_alike.f bt448.1 bt448.2.1 bt448.2.2.1 bt448.2.2.2.1 bt448.2.2.2.2.1 bt448.2.2.2.2.2.1 bt448.2.2.2.2.2.2.1 bt448.2.2.2.2.2.2.2.1 bt448.2.2.2.2.2.2.2.2.1 bt448.2.2.2.2.2.2.2.2.2.1 bt448.2.2.2.2.2.2.2.2.2.2.1 bt448.2.2.2.2.2.2.2.2.2.2.2.1 bt448.2.2.2.2.2.2.2.2.2.2.2.2.1 bt448.2.2.2.2.2.2.2.2.2.2.2.2.2.1 bt464.1 bt464.2.1 bt464.2.2.1 bt464.2.2.2.1 bt464.2.2.2.2.1 bt464.2.2.2.2.2.1 bt464.2.2.2.2.2.2.1 bt464.2.2.2.2.2.2.2.1 bt464.2.2.2.2.2.2.2.2.1 bt464.2.2.2.2.2.2.2.2.2.1 bt464.2.2.2.2.2.2.2.2.2.2.1 bt464.2.2.2.2.2.2.2.2.2.2.2.1 bt464.2.2.2.2.2.2.2.2.2.2.2.2.1 bt464.2.2.2.2.2.2.2.2.2.2.2.2.2.1).bind fun t480 => (if t480 = true then (some (bt448.2.2.2.2.2.2.2.2.2.2.2.2.2.2 == bt464.2.2.2.2.2.2.2.2.2.2.2.2.2.2)) else (some false))))) else (none)))) else ((packet_Classify.f a4).bind fun bt481 => ((weighbridgeref09_Classify.f k a4).bind fun bt497 => ((weighbridgelaw09_alike.f bt481.1 bt481.2.1 bt481.2.2.1 bt481.2.2.2.1 bt481.2.2.2.2.1 bt481.2.2.2.2.2.1 bt481.2.2.2.2.2.2.1 bt481.2.2.2.2.2.2.2.1 bt481.2.2.2.2.2.2.2.2.1 bt481.2.2.2.2.2.2.2.2.2.1 bt481.2.2.2.2.2.2.2.2.2.2.1 bt481.2.2.2.2.2.2.2.2.2.2.2.1 bt481.2.2.2.2.2.2.2.2.2.2.2.2.1 bt481.2.2.2.2.2.2.2.2.2.2.2.2.2.1 bt497.1 bt497.2.1 bt497.2.2.1 bt497.2.2.2.1 bt497.2.2.2.2.1 bt497.2.2.2.2.2.1 bt497.2.2.2.2.2.2.1 bt497.2.2.2.2.2.2.2.1 bt497.2.2.2.2.2.2.2.2.1 bt497.2.2.2.2.2.2.2.2.2.1 bt497.2.2.2.2.2.2.2.2.2.2.1 bt497.2.2.2.2.2.2.2.2.2.2.2.1 bt497.2.2.2.2.2.2.2.2.2.2.2.2.1 bt497.2.2.2.2.2.2.2.2.2.2.2.2.2.1).bind fun t513 => (if t513 = true then (some (bt481.2.2.2.2.2.2.2.2.2.2.2.2.2.2 == bt497.2.2.2.2.2.2.2.2.2.2.2.2.2.2)) else (some false)))))) else (some false))
theorem weighbridgelaw09_PacketClassifies.mono : ∀ a0 a1 a2 a3 a4 a5 a6 a7 a8 a9 a10 a11 a12 a13 a14 a15 k, LeO (weighbridgelaw09_PacketClassifies.f k a0 a1 a2 a3 a4 a5 a6 a7 a8 a9 a10 a11 a12 a13 a14 a15) (weighbridgelaw09_PacketClassifies.f (k + 1) a0 a1 a2 a3 a4 a5 a6 a7 a8 a9 a10 a11 a12 a13 a14 a15) := by
 intro a0 a1 a2 a3 a4 a5 a6 a7 a8 a9 a10 a11 a12 a13 a14 a15 k
 unfold weighbridgelaw09_PacketClassifies.f
 repeat' first
   | (with_reducible exact weighbridgeref09_Classify.mono _ _)
   | (with_reducible exact LeO.refl _)
   | (with_reducible exact LeO.none _)
   | (with_reducible refine LeO.ite ?_ ?_)
   | (with_reducible refine LeO.bind ?_ (fun _ => ?_))
   | exact weighbridgeref09_Classify.mono _ _
   | exact LeO.none _
   | refine LeO.ite ?_ ?_
   | refine LeO.bind ?_ (fun _ => ?_)
set_option maxHeartbeats 8000000 in
set_option maxRecDepth 100000 in
theorem weighbridgelaw09_PacketClassifies.calls (k : Nat) (a0_0 : Int) (a0_1 : Int) (a0_2 : Int) (a0_3 : Int) (a0_4 : Int) (a0_5 : Int) (a0_6 : Int) (a0_7 : ByteArray) (a0_8 : Bool) (a0_9 : Int) (a0_10 : Int) (a1 : Int) (a2 : Int) (a3 : ByteArray) (a4 : ByteArray) (a5 : Bool) (r : Bool) (w : World) (h : weighbridgelaw09_PacketClassifies.f k a0_0 a0_1 a0_2 a0_3 a0_4 a0_5 a0_6 a0_7 a0_8 a0_9 a0_10 a1 a2 a3 a4 a5 = some r) (hr_ : r = true) :
  Calls Try.prog 3 #[.agg #[.int .u8 a0_0, .int .u32 a0_1, .int .u32 a0_2, .int .u16 a0_3, .int .u16 a0_4, .int .u8 a0_5, .int .u8 a0_6, .string a0_7, .bool a0_8, .int .u32 a0_9, .int .u32 a0_10], .int .i64 a1, .int .u8 a2, .string a3, .string a4, .bool a5] w fun e w' => e = .returned (.bool r) ∧ Below w.heap.size w w' := by
 have hu25 := Try.underlying25
 have hu32 := Try.underlying32
 have hu36 := Try.underlying36
 have HB := AA (Below.refl w.heap.size w)
 have H : ((weighbridgelaw09_examples.f).bind fun t445 => (if t445 = true then (if a5 = true then ((weighbridgelaw09_Make_frame.f a0_0 a0_1 a0_2 a0_3 a0_4 a0_5 a0_6 a0_7 a0_8 a0_9 a0_10).bind fun t446 => ((weighbridgelaw09_broken.f t446 a1 a2).bind fun t447 => (if t447.size + a3.size ≤ 9223372036854775807 then ((packet_Classify.f (t447 ++ a3)).bind fun bt448 => ((weighbridgeref09_Classify.f k (t447 ++ a3)).bind fun bt464 => ((weighbridgelaw09_alike.f bt448.1 bt448.2.1 bt448.2.2.1 bt448.2.2.2.1 bt448.2.2.2.2.1 bt448.2.2.2.2.2.1 bt448.2.2.2.2.2.2.1 bt448.2.2.2.2.2.2.2.1 bt448.2.2.2.2.2.2.2.2.1 bt448.2.2.2.2.2.2.2.2.2.1 bt448.2.2.2.2.2.2.2.2.2.2.1 bt448.2.2.2.2.2.2.2.2.2.2.2.1 bt448.2.2.2.2.2.2.2.2.2.2.2.2.1 bt448.2.2.2.2.2.2.2.2.2.2.2.2.2.1 bt464.1 bt464.2.1 bt464.2.2.1 bt464.2.2.2.1 bt464.2.2.2.2.1 bt464.2.2.2.2.2.1 bt464.2.2.2.2.2.2.1 bt464.2.2.2.2.2.2.2.1 bt464.2.2.2.2.2.2.2.2.1 bt464.2.2.2.2.2.2.2.2.2.1 bt464.2.2.2.2.2.2.2.2.2.2.1 bt464.2.2.2.2.2.2.2.2.2.2.2.1 bt464.2.2.2.2.2.2.2.2.2.2.2.2.1 bt464.2.2.2.2.2.2.2.2.2.2.2.2.2.1).bind fun t480 => (if t480 = true then (some (bt448.2.2.2.2.2.2.2.2.2.2.2.2.2.2 == bt464.2.2.2.2.2.2.2.2.2.2.2.2.2.2)) else (some false))))) else (none)))) else ((packet_Classify.f a4).bind fun bt481 => ((weighbridgeref09_Classify.f k a4).bind fun bt497 => ((weighbridgelaw09_alike.f bt481.1 bt481.2.1 bt481.2.2.1 bt481.2.2.2.1 bt481.2.2.2.2.1 bt481.2.2.2.2.2.1 bt481.2.2.2.2.2.2.1 bt481.2.2.2.2.2.2.2.1 bt481.2.2.2.2.2.2.2.2.1 bt481.2.2.2.2.2.2.2.2.2.1 bt481.2.2.2.2.2.2.2.2.2.2.1 bt481.2.2.2.2.2.2.2.2.2.2.2.1 bt481.2.2.2.2.2.2.2.2.2.2.2.2.1 bt481.2.2.2.2.2.2.2.2.2.2.2.2.2.1 bt497.1 bt497.2.1 bt497.2.2.1 bt497.2.2.2.1 bt497.2.2.2.2.1 bt497.2.2.2.2.2.1 bt497.2.2.2.2.2.2.1 bt497.2.2.2.2.2.2.2.1 bt497.2.2.2.2.2.2.2.2.1 bt497.2.2.2.2.2.2.2.2.2.1 bt497.2.2.2.2.2.2.2.2.2.2.1 bt497.2.2.2.2.2.2.2.2.2.2.2.1 bt497.2.2.2.2.2.2.2.2.2.2.2.2.1 bt497.2.2.2.2.2.2.2.2.2.2.2.2.2.1).bind fun t513 => (if t513 = true then (some (bt481.2.2.2.2.2.2.2.2.2.2.2.2.2.2 == bt497.2.2.2.2.2.2.2.2.2.2.2.2.2.2)) else (some false)))))) else (some false))) = some r := h
 clear h
 replace H := OB H
 obtain ⟨t445, A7, H⟩ := H
 (try set_option simprocs false in dsimp only at H)
 go_enter Try.func3, Try.ntmps3
 go_upto_if 21 with (first | ((with_reducible refine gate_dst (N := 6) rfl ?_); refine bx 6 25 (rr11 a0_0 a0_1 a0_2 a0_3 a0_4 a0_5 a0_6 a0_7 a0_8 a0_9 a0_10) ?_; intro gb444 hg w17 hbox hb; have BK444 := AA hbox; have GW444 := GS hg HB; have GE444 := GS hg HB; replace HB := BS HB hb; clear hb hbox hg) | ((with_reducible refine gkx 9 rfl ?_); refine gL 19 Try.func9 rfl (weighbridgelaw09_examples.calls  _ _ A7.out) ?_; rintro w18 hb; (try clear A7); replace BK444 := AA (blk_below (g := gb444) (o := .cells (rr11 a0_0 a0_1 a0_2 a0_3 a0_4 a0_5 a0_6 a0_7 a0_8 a0_9 a0_10) 25 (0, 0)) (BD BK444) hb); replace HB := BS HB hb; (try clear hb); have hz19 := blk11 BK444.out))
 by_cases c8 : t445 = true
 rotate_left
 ·replace c8 := Bool.eq_false_iff.mpr c8
  subst c8
  replace H := IFN H
  exact absurd ((Option.some.inj H).trans hr_) (by decide)
 subst c8
 first | rw [if_pos rfl] at H | rw [if_pos trivial] at H
 by_cases c9 : a5 = true
 ·subst c9
  first | rw [if_pos rfl] at H | rw [if_pos trivial] at H
  replace H := OB H
  obtain ⟨t446, A10, H⟩ := H
  (try set_option simprocs false in dsimp only at H)
  replace H := OB H
  obtain ⟨t447, A11, H⟩ := H
  (try set_option simprocs false in dsimp only at H)
  replace H := IT H
  obtain ⟨c12, H⟩ := H
  have c12b0 := eq_true c12
  have c12b1 := decide_eq_true c12
  try have c12b2 : (9223372036854775807 < t447.size + a3.size) = False := eq_false (Nat.not_lt.2 c12)
  replace H := OB H
  obtain ⟨⟨t448, t449, t450, t451, t452, t453, t454, t455, t456, t457, t458, t459, t460, t461, t462⟩, A13, H⟩ := H
  (try set_option simprocs false in dsimp only at H)
  replace H := OB H
  obtain ⟨⟨t464, t465, t466, t467, t468, t469, t470, t471, t472, t473, t474, t475, t476, t477, t478⟩, A14, H⟩ := H
  (try set_option simprocs false in dsimp only at H)
  replace H := OB H
  obtain ⟨t480, A15, H⟩ := H
  (try set_option simprocs false in dsimp only at H)
  by_cases c16 : t480 = true
  ·subst c16
   first | rw [if_pos rfl] at H | rw [if_pos trivial] at H
   obtain rfl := Option.some.inj H
   go_wp2_with (first | ((with_reducible refine gkx 11 rfl ?_); refine gL 24 Try.func11 rfl (weighbridgelaw09_Make_frame.calls a0_0 a0_1 a0_2 a0_3 a0_4 a0_5 a0_6 a0_7 a0_8 a0_9 a0_10 t446 _ A10.out) ?_; rintro w20 hb; (try clear A10); replace BK444 := AA (blk_below (g := gb444) (o := .cells (rr11 a0_0 a0_1 a0_2 a0_3 a0_4 a0_5 a0_6 a0_7 a0_8 a0_9 a0_10) 25 (0, 0)) (BD BK444) hb); replace HB := BS HB hb; (try clear hb)) | ((with_reducible refine gkx 10 rfl ?_); refine gL 27 Try.func10 rfl (weighbridgelaw09_broken.calls t446 a1 a2 t447 _ A11.out) ?_; rintro w21 hb; (try clear A11); replace BK444 := AA (blk_below (g := gb444) (o := .cells (rr11 a0_0 a0_1 a0_2 a0_3 a0_4 a0_5 a0_6 a0_7 a0_8 a0_9 a0_10) 25 (0, 0)) (BD BK444) hb); replace HB := BS HB hb; (try clear hb)) | ((with_reducible refine gkx 12 rfl ?_); refine gL 32 Try.func12 rfl (packet_Classify.calls (t447 ++ a3) t448 t449 t450 t451 t452 t453 t454 t455 t456 t457 t458 t459 t460 t461 t462 _ A13.out) ?_; rintro w22 hb; (try clear A13); replace BK444 := AA (blk_below (g := gb444) (o := .cells (rr11 a0_0 a0_1 a0_2 a0_3 a0_4 a0_5 a0_6 a0_7 a0_8 a0_9 a0_10) 25 (0, 0)) (BD BK444) hb); replace HB := BS HB hb; (try clear hb)) | ((with_reducible refine gate_dst (N := 14) rfl ?_); refine bx 14 32 (rr14 0 0 0 0 0 0 0 0 0 0 0 0 0 0) ?_; intro gb463 hg w23 hbox hb; have BK463 := AA hbox; have GW463 := GS hg HB; have GE463 := GS hg HB; replace HB := BS HB hb; have NB444_463 := AA (by rw [hg]; exact Nat.ne_of_lt (blk_lt (g := gb444) (o := .cells (rr11 a0_0 a0_1 a0_2 a0_3 a0_4 a0_5 a0_6 a0_7 a0_8 a0_9 a0_10) 25 (0, 0)) (BD BK444)) : gb444 ≠ gb463); have NB463_444 := AA (by rw [hg]; exact Nat.ne_of_gt (blk_lt (g := gb444) (o := .cells (rr11 a0_0 a0_1 a0_2 a0_3 a0_4 a0_5 a0_6 a0_7 a0_8 a0_9 a0_10) 25 (0, 0)) (BD BK444)) : gb463 ≠ gb444); replace BK444 := AA (blk_below (g := gb444) (o := .cells (rr11 a0_0 a0_1 a0_2 a0_3 a0_4 a0_5 a0_6 a0_7 a0_8 a0_9 a0_10) 25 (0, 0)) (BD BK444) hb); clear hb hbox hg; have hnb24 := NB463_444.out; have hnc24 := NB444_463.out; have hz25 := blk14 BK463.out) | ((with_reducible refine gkx 13 rfl ?_); refine gL 37 Try.func13 rfl (weighbridgeref09_Classify.calls k (t447 ++ a3) t464 t465 t466 t467 t468 t469 t470 t471 t472 t473 t474 t475 t476 t477 t478 _ A14.out) ?_; rintro w26 hb; (try clear A14); replace BK444 := AA (blk_below (g := gb444) (o := .cells (rr11 a0_0 a0_1 a0_2 a0_3 a0_4 a0_5 a0_6 a0_7 a0_8 a0_9 a0_10) 25 (0, 0)) (BE BK444) hb); replace BK463 := AA (blk_below (g := gb463) (o := .cells (rr14 t448 t449 t450 t451 t452 t453 t454 t455 t456 t457 t458 t459 t460 t461) 32 (0, 0)) (BE BK463) hb); replace HB := BS HB hb; (try clear hb)) | ((with_reducible refine gate_dst (N := 16) rfl ?_); refine bx 16 36 (rr14 0 0 0 0 0 0 0 0 0 0 0 0 0 0) ?_; intro gb479 hg w27 hbox hb; have BK479 := AA hbox; have GW479 := GS hg HB; have GE479 := GS hg HB; replace HB := BS HB hb; have NB444_479 := AA (by rw [hg]; exact Nat.ne_of_lt (blk_lt (g := gb444) (o := .cells (rr11 a0_0 a0_1 a0_2 a0_3 a0_4 a0_5 a0_6 a0_7 a0_8 a0_9 a0_10) 25 (0, 0)) (BD BK444)) : gb444 ≠ gb479); have NB479_444 := AA (by rw [hg]; exact Nat.ne_of_gt (blk_lt (g := gb444) (o := .cells (rr11 a0_0 a0_1 a0_2 a0_3 a0_4 a0_5 a0_6 a0_7 a0_8 a0_9 a0_10) 25 (0, 0)) (BD BK444)) : gb479 ≠ gb444); replace BK444 := AA (blk_below (g := gb444) (o := .cells (rr11 a0_0 a0_1 a0_2 a0_3 a0_4 a0_5 a0_6 a0_7 a0_8 a0_9 a0_10) 25 (0, 0)) (BD BK444) hb); have NB463_479 := AA (by rw [hg]; exact Nat.ne_of_lt (blk_lt (g := gb463) (o := .cells (rr14 t448 t449 t450 t451 t452 t453 t454 t455 t456 t457 t458 t459 t460 t461) 32 (0, 0)) (BD BK463)) : gb463 ≠ gb479); have NB479_463 := AA (by rw [hg]; exact Nat.ne_of_gt (blk_lt (g := gb463) (o := .cells (rr14 t448 t449 t450 t451 t452 t453 t454 t455 t456 t457 t458 t459 t460 t461) 32 (0, 0)) (BD BK463)) : gb479 ≠ gb463); replace BK463 := AA (blk_below (g := gb463) (o := .cells (rr14 t448 t449 t450 t451 t452 t453 t454 t455 t456 t457 t458 t459 t460 t461) 32 (0, 0)) (BD BK463) hb); clear hb hbox hg; have hnb28 := NB479_444.out; have hnc28 := NB444_479.out; have hnb29 := NB479_463.out; have hnc29 := NB463_479.out; have hz30 := blk14 BK479.out; have hz31 := blk14 BK463.out) | ((with_reducible refine gkx 14 rfl ?_); refine gL 42 Try.func14 rfl (weighbridgelaw09_alike.calls t448 t449 t450 t451 t452 t453 t454 t455 t456 t457 t458 t459 t460 t461 t464 t465 t466 t467 t468 t469 t470 t471 t472 t473 t474 t475 t476 t477 true _ A15.out) ?_; rintro w32 hb; (try clear A15); replace BK444 := AA (blk_below (g := gb444) (o := .cells (rr11 a0_0 a0_1 a0_2 a0_3 a0_4 a0_5 a0_6 a0_7 a0_8 a0_9 a0_10) 25 (0, 0)) (BE BK444) hb); replace BK463 := AA (blk_below (g := gb463) (o := .cells (rr14 t448 t449 t450 t451 t452 t453 t454 t455 t456 t457 t458 t459 t460 t461) 32 (0, 0)) (BE BK463) hb); replace BK479 := AA (blk_below (g := gb479) (o := .cells (rr14 t464 t465 t466 t467 t468 t469 t470 t471 t472 t473 t474 t475 t476 t477) 36 (0, 0)) (BE BK479) hb); replace HB := BS HB hb; (try clear hb)))
   go_ret
   exact ⟨RT, BW HB⟩
  replace c16 := Bool.eq_false_iff.mpr c16
  subst c16
  replace H := IFN H
  exact absurd ((Option.some.inj H).trans hr_) (by decide)
 replace c9 := Bool.eq_false_iff.mpr c9
 subst c9
 replace H := IFN H
 replace H := OB H
 obtain ⟨⟨t481, t482, t483, t484, t485, t486, t487, t488, t489, t490, t491, t492, t493, t494, t495⟩, A33, H⟩ := H
 (try set_option simprocs false in dsimp only at H)
 replace H := OB H
 obtain ⟨⟨t497, t498, t499, t500, t501, t502, t503, t504, t505, t506, t507, t508, t509, t510, t511⟩, A34, H⟩ := H
 (try set_option simprocs false in dsimp only at H)
 replace H := OB H
 obtain ⟨t513, A35, H⟩ := H
 (try set_option simprocs false in dsimp only at H)
 by_cases c36 : t513 = true
 ·subst c36
  first | rw [if_pos rfl] at H | rw [if_pos trivial] at H
  obtain rfl := Option.some.inj H
  go_wp2_with (first | ((with_reducible refine gkx 12 rfl ?_); refine gL 32 Try.func12 rfl (packet_Classify.calls a4 t481 t482 t483 t484 t485 t486 t487 t488 t489 t490 t491 t492 t493 t494 t495 _ A33.out) ?_; rintro w39 hb; (try clear A33); replace BK444 := AA (blk_below (g := gb444) (o := .cells (rr11 a0_0 a0_1 a0_2 a0_3 a0_4 a0_5 a0_6 a0_7 a0_8 a0_9 a0_10) 25 (0, 0)) (BD BK444) hb); replace HB := BS HB hb; (try clear hb)) | ((with_reducible refine gate_dst (N := 14) rfl ?_); refine bx 14 32 (rr14 0 0 0 0 0 0 0 0 0 0 0 0 0 0) ?_; intro gb496 hg w40 hbox hb; have BK496 := AA hbox; have GW496 := GS hg HB; have GE496 := GS hg HB; replace HB := BS HB hb; have NB444_496 := AA (by rw [hg]; exact Nat.ne_of_lt (blk_lt (g := gb444) (o := .cells (rr11 a0_0 a0_1 a0_2 a0_3 a0_4 a0_5 a0_6 a0_7 a0_8 a0_9 a0_10) 25 (0, 0)) (BD BK444)) : gb444 ≠ gb496); have NB496_444 := AA (by rw [hg]; exact Nat.ne_of_gt (blk_lt (g := gb444) (o := .cells (rr11 a0_0 a0_1 a0_2 a0_3 a0_4 a0_5 a0_6 a0_7 a0_8 a0_9 a0_10) 25 (0, 0)) (BD BK444)) : gb496 ≠ gb444); replace BK444 := AA (blk_below (g := gb444) (o := .cells (rr11 a0_0 a0_1 a0_2 a0_3 a0_4 a0_5 a0_6 a0_7 a0_8 a0_9 a0_10) 25 (0, 0)) (BD BK444) hb); clear hb hbox hg; have hnb41 := NB496_444.out; have hnc41 := NB444_496.out; have hz42 := blk14 BK496.out) | ((with_reducible refine gkx 13 rfl ?_); refine gL 37 Try.func13 rfl (weighbridgeref09_Classify.calls k a4 t497 t498 t499 t500 t501 t502 t503 t504 t505 t506 t507 t508 t509 t510 t511 _ A34.out) ?_; rintro w43 hb; (try clear A34); replace BK444 := AA (blk_below (g := gb444) (o := .cells (rr11 a0_0 a0_1 a0_2 a0_3 a0_4 a0_5 a0_6 a0_7 a0_8 a0_9 a0_10) 25 (0, 0)) (BE BK444) hb); replace BK496 := AA (blk_below (g := gb496) (o := .cells (rr14 t481 t482 t483 t484 t485 t486 t487 t488 t489 t490 t491 t492 t493 t494) 32 (0, 0)) (BE BK496) hb); replace HB := BS HB hb; (try clear hb)) | ((with_reducible refine gate_dst (N := 16) rfl ?_); refine bx 16 36 (rr14 0 0 0 0 0 0 0 0 0 0 0 0 0 0) ?_; intro gb512 hg w44 hbox hb; have BK512 := AA hbox; have GW512 := GS hg HB; have GE512 := GS hg HB; replace HB := BS HB hb; have NB444_512 := AA (by rw [hg]; exact Nat.ne_of_lt (blk_lt (g := gb444) (o := .cells (rr11 a0_0 a0_1 a0_2 a0_3 a0_4 a0_5 a0_6 a0_7 a0_8 a0_9 a0_10) 25 (0, 0)) (BD BK444)) : gb444 ≠ gb512); have NB512_444 := AA (by rw [hg]; exact Nat.ne_of_gt (blk_lt (g := gb444) (o := .cells (rr11 a0_0 a0_1 a0_2 a0_3 a0_4 a0_5 a0_6 a0_7 a0_8 a0_9 a0_10) 25 (0, 0)) (BD BK444)) : gb512 ≠ gb444); replace BK444 := AA (blk_below (g := gb444) (o := .cells (rr11 a0_0 a0_1 a0_2 a0_3 a0_4 a0_5 a0_6 a0_7 a0_8 a0_9 a0_10) 25 (0, 0)) (BD BK444) hb); have NB496_512 := AA (by rw [hg]; exact Nat.ne_of_lt (blk_lt (g := gb496) (o := .cells (rr14 t481 t482 t483 t484 t485 t486 t487 t488 t489 t490 t491 t492 t493 t494) 32 (0, 0)) (BD BK496)) : gb496 ≠ gb512); have NB512_496 := AA (by rw [hg]; exact Nat.ne_of_gt (blk_lt (g := gb496) (o := .cells (rr14 t481 t482 t483 t484 t485 t486 t487 t488 t489 t490 t491 t492 t493 t494) 32 (0, 0)) (BD BK496)) : gb512 ≠ gb496); replace BK496 := AA (blk_below (g := gb496) (o := .cells (rr14 t481 t482 t483 t484 t485 t486 t487 t488 t489 t490 t491 t492 t493 t494) 32 (0, 0)) (BD BK496) hb); clear hb hbox hg; have hnb45 := NB512_444.out; have hnc45 := NB444_512.out; have hnb46 := NB512_496.out; have hnc46 := NB496_512.out; have hz47 := blk14 BK512.out; have hz48 := blk14 BK496.out) | ((with_reducible refine gkx 14 rfl ?_); refine gL 42 Try.func14 rfl (weighbridgelaw09_alike.calls t481 t482 t483 t484 t485 t486 t487 t488 t489 t490 t491 t492 t493 t494 t497 t498 t499 t500 t501 t502 t503 t504 t505 t506 t507 t508 t509 t510 true _ A35.out) ?_; rintro w49 hb; (try clear A35); replace BK444 := AA (blk_below (g := gb444) (o := .cells (rr11 a0_0 a0_1 a0_2 a0_3 a0_4 a0_5 a0_6 a0_7 a0_8 a0_9 a0_10) 25 (0, 0)) (BE BK444) hb); replace BK496 := AA (blk_below (g := gb496) (o := .cells (rr14 t481 t482 t483 t484 t485 t486 t487 t488 t489 t490 t491 t492 t493 t494) 32 (0, 0)) (BE BK496) hb); replace BK512 := AA (blk_below (g := gb512) (o := .cells (rr14 t497 t498 t499 t500 t501 t502 t503 t504 t505 t506 t507 t508 t509 t510) 36 (0, 0)) (BE BK512) hb); replace HB := BS HB hb; (try clear hb)))
  go_ret
  exact ⟨RT, BW HB⟩
 replace c36 := Bool.eq_false_iff.mpr c36
 subst c36
 replace H := IFN H
 exact absurd ((Option.some.inj H).trans hr_) (by decide)

/-- THE ONE PURE STATEMENT of weighbridgelaw09_PacketClassifies: yours. -/
def weighbridgelaw09_PacketClassifies.Pure : Prop := ∀ (a0_0 : Int) (a0_1 : Int) (a0_2 : Int) (a0_3 : Int) (a0_4 : Int) (a0_5 : Int) (a0_6 : Int) (a0_7 : ByteArray) (a0_8 : Bool) (a0_9 : Int) (a0_10 : Int) (a1 : Int) (a2 : Int) (a3 : ByteArray) (a4 : ByteArray) (a5 : Bool), (Lit.int .u8 a0_0).wf = true → (Lit.int .u32 a0_1).wf = true → (Lit.int .u32 a0_2).wf = true → (Lit.int .u16 a0_3).wf = true → (Lit.int .u16 a0_4).wf = true → (Lit.int .u8 a0_5).wf = true → (Lit.int .u8 a0_6).wf = true → a0_7.size ≤ 140737488351232 → (Lit.int .u32 a0_9).wf = true → (Lit.int .u32 a0_10).wf = true → (Lit.int .i64 a1).wf = true → (Lit.int .u8 a2).wf = true → a3.size ≤ 140737488351232 → a4.size ≤ 140737488351232 → ∃ k, weighbridgelaw09_PacketClassifies.f k a0_0 a0_1 a0_2 a0_3 a0_4 a0_5 a0_6 a0_7 a0_8 a0_9 a0_10 a1 a2 a3 a4 a5 = some true
theorem weighbridgelaw09_PacketClassifies.walk (P : weighbridgelaw09_PacketClassifies.Pure) (a0_0 : Int) (a0_1 : Int) (a0_2 : Int) (a0_3 : Int) (a0_4 : Int) (a0_5 : Int) (a0_6 : Int) (a0_7 : ByteArray) (a0_8 : Bool) (a0_9 : Int) (a0_10 : Int) (a1 : Int) (a2 : Int) (a3 : ByteArray) (a4 : ByteArray) (a5 : Bool) (w : World) (w0_0 : (Lit.int .u8 a0_0).wf = true) (w0_1 : (Lit.int .u32 a0_1).wf = true) (w0_2 : (Lit.int .u32 a0_2).wf = true) (w0_3 : (Lit.int .u16 a0_3).wf = true) (w0_4 : (Lit.int .u16 a0_4).wf = true) (w0_5 : (Lit.int .u8 a0_5).wf = true) (w0_6 : (Lit.int .u8 a0_6).wf = true) (w0_7 : a0_7.size ≤ 140737488351232) (w0_9 : (Lit.int .u32 a0_9).wf = true) (w0_10 : (Lit.int .u32 a0_10).wf = true) (w1 : (Lit.int .i64 a1).wf = true) (w2 : (Lit.int .u8 a2).wf = true) (w3 : a3.size ≤ 140737488351232) (w4 : a4.size ≤ 140737488351232) :
  Calls Try.prog 3 #[.agg #[.int .u8 a0_0, .int .u32 a0_1, .int .u32 a0_2, .int .u16 a0_3, .int .u16 a0_4, .int .u8 a0_5, .int .u8 a0_6, .string a0_7, .bool a0_8, .int .u32 a0_9, .int .u32 a0_10], .int .i64 a1, .int .u8 a2, .string a3, .string a4, .bool a5] w fun e w' => e = .returned (.bool true) ∧ Below w.heap.size w w' := by
 obtain ⟨k, h⟩ := P a0_0 a0_1 a0_2 a0_3 a0_4 a0_5 a0_6 a0_7 a0_8 a0_9 a0_10 a1 a2 a3 a4 a5 w0_0 w0_1 w0_2 w0_3 w0_4 w0_5 w0_6 w0_7 w0_9 w0_10 w1 w2 w3 w4
 refine (weighbridgelaw09_PacketClassifies.calls k a0_0 a0_1 a0_2 a0_3 a0_4 a0_5 a0_6 a0_7 a0_8 a0_9 a0_10 a1 a2 a3 a4 a5 true w h rfl).mono ?_
 rintro e w' ⟨rfl, hd⟩
 exact ⟨rfl, hd⟩
end Go.Proofs.Ytkganedlhcepfaa.Pr
