-- Written by a program of the session (wip/tools) out of the translation, over the kit's print; with pieces of the session's own.
import Derived.Test.YtkganedlhcepfaaPr0
import Derived.Test.YtkganedlhcepfaaMore
import Derived.Test.YtkganedlhcepfaaPr9
import Derived.Test.YtkganedlhcepfaaPr18
namespace Go.Proofs.Ytkganedlhcepfaa.Pr
open Go.RowKit Go.Proofs.YtkganedlhcepfaaW.PrintWords Go.Proofs.YtkganedlhcepfaaW.PrintLast Go.Proofs.YtkganedlhcepfaaW.PrintMore
attribute [local go_sem] max2_int min2_int max_two min_two max_three min_three max_four min_four   -- for this text's walks alone
set_option linter.unusedVariables false
set_option linter.unusedSimpArgs false
open Go.Proofs.Ytkganedlhcepfaa.Sp
/-! ### weighbridgelaw09_PacketSums: function 6 -/
def weighbridgelaw09_PacketSums.f (a0_0 : Int) (a0_1 : Int) (a0_2 : Int) (a0_3 : Int) (a0_4 : Int) (a0_5 : Int) (a0_6 : Int) (a0_7 : ByteArray) (a0_8 : Bool) (a0_9 : Int) (a0_10 : Int) (a1 : Int) : Option (Bool) := (weighbridgelaw09_examples.f).bind fun t592 => (if t592 = true then (if 1 + a0_7.size ≤ 9223372036854775807 then ((weighbridgelaw09_Make_frame.f (Int.tmod a0_0 2) a0_1 a0_2 a0_3 a0_4 a0_5 a0_6 ((⟨#[98]⟩ : ByteArray) ++ a0_7) false a0_9 a0_10).bind fun t593 => (if (8 * (mn (((⟨#[98]⟩ : ByteArray) ++ a0_7).size : Int) 40)) = 0 then (none) else (if t593.size ≤ 281474976710656 then ((some (numsOf t593 : List Int)).bind fun y594 => (if (t593.size : Int) < (28 + (mn (((⟨#[98]⟩ : ByteArray) ++ a0_7).size : Int) 40)) then (some false) else (if 0 ≤ (wrap64 ((wrap64 ((t593.size : Int) - (mn (((⟨#[98]⟩ : ByteArray) ++ a0_7).size : Int) 40))) + (wrap64 (Int.tdiv (Int.tmod (wrap64 (a1)) (8 * (mn (((⟨#[98]⟩ : ByteArray) ++ a0_7).size : Int) 40))) 8)))) then (if (wrap64 ((wrap64 ((t593.size : Int) - (mn (((⟨#[98]⟩ : ByteArray) ++ a0_7).size : Int) 40))) + (wrap64 (Int.tdiv (Int.tmod (wrap64 (a1)) (8 * (mn (((⟨#[98]⟩ : ByteArray) ++ a0_7).size : Int) 40))) 8)))) < (y594.length : Int) then (if 0 ≤ (Int.tmod (Int.tmod (wrap64 (a1)) (8 * (mn (((⟨#[98]⟩ : ByteArray) ++ a0_7).size : Int) 40))) 8) then ((packet_Classify.f (strOfNums (y594.set ((wrap64 ((wrap64 ((t593.size : Int) - (mn (((⟨#[98]⟩ : ByteArray) ++ a0_7).size : Int) 40))) + (wrap64 (Int.tdiv (Int.tmod (wrap64 (a1)) (8 * (mn (((⟨#[98]⟩ : ByteArray) ++ a0_7).size : Int) 40))) 8)))) : Int).toNat (Go.bits .xor .u8 (rd y594 (wrap64 ((wrap64 ((t593.size : Int) - (mn (((⟨#[98]⟩ : ByteArray) ++ a0_7).size : Int) 40))) + (wrap64 (Int.tdiv (Int.tmod (wrap64 (a1)) (8 * (mn (((⟨#[98]⟩ : ByteArray) ++ a0_7).size : Int) 40))) 8))))) (shl .u8 1 (Int.tmod (Int.tmod (wrap64 (a1)) (8 * (mn (((⟨#[98]⟩ : ByteArray) ++ a0_7).size : Int) 40))) 8)))))).bind fun bt599 => ((packet_Classify.f t593).bind fun bt615 => (if bt599.2.2.2.2.2.2.2.2.2.2.2.2.2.2 = 7 then (some (bt615.2.2.2.2.2.2.2.2.2.2.2.2.2.2 == 0)) else (some false)))) else (none)) else (none)) else (none)))) else (none)))) else (none)) else (some false))
def weighbridgelaw09_PacketSums.T14 : Bool × List (List Nat × List Nat) := (true, [([], []), ([], []), ([], []), ([], []), ([2, 3], [2, 3]), ([4], [4]), ([], []), ([6], [6]), ([7], [7]), ([5, 8], [5, 8]), ([0, 1, 0, 1, 2, 3, 4, 5, 6, 7, 8, 9], [0, 1]), ([10, 9, 0, 1, 2, 3, 4, 5, 6, 7, 8, 9], [9, 10])])
def weighbridgelaw09_PacketSums.B14 : List Nat := [0, 0, 0, 0, 12, 28, 0, 64, 192, 508, 1023, 2047]
theorem weighbridgelaw09_PacketSums.tab14 : rtab .any (opsOf Try.f6 14) = weighbridgelaw09_PacketSums.T14 := by kernel_rfl
theorem weighbridgelaw09_PacketSums.bits14 : waitsOk weighbridgelaw09_PacketSums.T14.2 weighbridgelaw09_PacketSums.B14 = true := by kernel_rfl
set_option maxHeartbeats 8000000 in
set_option maxRecDepth 100000 in
theorem weighbridgelaw09_PacketSums.calls (a0_0 : Int) (a0_1 : Int) (a0_2 : Int) (a0_3 : Int) (a0_4 : Int) (a0_5 : Int) (a0_6 : Int) (a0_7 : ByteArray) (a0_8 : Bool) (a0_9 : Int) (a0_10 : Int) (a1 : Int) (r : Bool) (w : World) (h : weighbridgelaw09_PacketSums.f a0_0 a0_1 a0_2 a0_3 a0_4 a0_5 a0_6 a0_7 a0_8 a0_9 a0_10 a1 = some r) (hr_ : r = true) :
  Calls Try.prog 6 #[.agg #[.int .u8 a0_0, .int .u32 a0_1, .int .u32 a0_2, .int .u16 a0_3, .int .u16 a0_4, .int .u8 a0_5, .int .u8 a0_6, .string a0_7, .bool a0_8, .int .u32 a0_9, .int .u32 a0_10], .int .u16 a1] w fun e w' => e = .returned (.bool r) ∧ Below w.heap.size w w' := by
 have hu25 := Try.underlying25
 have hu32 := Try.underlying32
 have HB := Aside0.mk (Below.refl w.heap.size w)
 have H := h
 unfold weighbridgelaw09_PacketSums.f at H
 clear h
 replace H := Option.bind_eq_some_iff.mp H
 obtain ⟨t592, A30, H⟩ := H
 (try set_option simprocs false in dsimp only at H)
 have A3 := Aside0.mk A30
 clear A30
 by_cases c4 : t592 = true
 rotate_left
 ·replace c4 := Bool.eq_false_iff.mpr c4
  subst c4
  have H1 : (some false) = some r := by rw [if_neg (show ¬ (false = true) by decide)] at H; exact H
  clear H
  have H := H1
  clear H1
  exact absurd ((Option.some.inj H).trans hr_) (by decide)
 subst c4
 first | rw [if_pos rfl] at H | rw [if_pos trivial] at H
 by_cases c5 : 1 + a0_7.size ≤ 9223372036854775807
 rotate_left
 ·rw [if_neg c5] at H
  exact absurd H (by simp)
 rw [if_pos c5] at H
 have c5b0 := eq_true c5
 have c5b1 : decide (1 + a0_7.size ≤ 9223372036854775807) = true := decide_eq_true c5
 try have c5b2 : (9223372036854775807 < 1 + a0_7.size) = False := eq_false (Nat.not_lt.2 c5)
 replace H := Option.bind_eq_some_iff.mp H
 obtain ⟨t593, A60, H⟩ := H
 (try set_option simprocs false in dsimp only at H)
 have A6 := Aside0.mk A60
 clear A60
 obtain ⟨ji7, hji7⟩ : ∃ j_ : Int, (mn (((⟨#[98]⟩ : ByteArray) ++ a0_7).size : Int) 40) = j_ := ⟨_, rfl⟩
 (try (have hji7y := hji7; simp only [ByteArray.size_append, Int.natCast_add] at hji7y))
 replace H : (if (8 * (ji7)) = 0 then (none) else (if t593.size ≤ 281474976710656 then ((some (numsOf t593 : List Int)).bind fun y594 => (if (t593.size : Int) < (28 + (ji7)) then (some false) else (if 0 ≤ (wrap64 ((wrap64 ((t593.size : Int) - (ji7))) + (wrap64 (Int.tdiv (Int.tmod (wrap64 (a1)) (8 * (ji7))) 8)))) then (if (wrap64 ((wrap64 ((t593.size : Int) - (ji7))) + (wrap64 (Int.tdiv (Int.tmod (wrap64 (a1)) (8 * (ji7))) 8)))) < (y594.length : Int) then (if 0 ≤ (Int.tmod (Int.tmod (wrap64 (a1)) (8 * (ji7))) 8) then ((packet_Classify.f (strOfNums (y594.set ((wrap64 ((wrap64 ((t593.size : Int) - (ji7))) + (wrap64 (Int.tdiv (Int.tmod (wrap64 (a1)) (8 * (ji7))) 8)))) : Int).toNat (Go.bits .xor .u8 (rd y594 (wrap64 ((wrap64 ((t593.size : Int) - (ji7))) + (wrap64 (Int.tdiv (Int.tmod (wrap64 (a1)) (8 * (ji7))) 8))))) (shl .u8 1 (Int.tmod (Int.tmod (wrap64 (a1)) (8 * (ji7))) 8)))))).bind fun bt599 => ((packet_Classify.f t593).bind fun bt615 => (if bt599.2.2.2.2.2.2.2.2.2.2.2.2.2.2 = 7 then (some (bt615.2.2.2.2.2.2.2.2.2.2.2.2.2.2 == 0)) else (some false)))) else (none)) else (none)) else (none)))) else (none))) = some r := by first | (rw [hji7] at H; exact H) | (simp only [hji7] at H ⊢; exact H)
 (try rw [hji7] at A3)
 (try rw [hji7] at A6)
 (try (have hji7h : ji7 ≤ 40 := by (rw [← hji7]; unfold mn; (repeat' split) <;> omega)))
 (try (have hji7g : ji7 ≤ 64 := by omega))
 (try (have hji7l : 0 ≤ ji7 := by (rw [← hji7]; unfold mn; (repeat' split) <;> omega)))
 (try (have hji7m : 0 ≤ ji7 := by omega))
 have hji7_ : (if 40 < (((⟨#[98]⟩ : ByteArray) ++ a0_7).size : Int) then 40 else (((⟨#[98]⟩ : ByteArray) ++ a0_7).size : Int)) = ji7 := hji7
 have hji7a : (if 40 < 1 + (a0_7.size : Int) then 40 else 1 + (a0_7.size : Int)) = ji7 := by rw [← hji7_, ByteArray.size_append, Int.natCast_add]; rfl
 have hji7b : mn (1 + (a0_7.size : Int)) 40 = ji7 := hji7a
 by_cases c8 : (8 * (ji7)) = 0
 ·rw [if_pos c8] at H
  exact absurd H (by simp)
 rw [if_neg c8] at H
 have c8b0 : ((8 * (ji7)) == 0) = false := beq_eq_false_iff_ne.mpr c8
 have c8b1 : ((8 * (ji7)) != 0) = true := bne_iff_ne.mpr c8
 by_cases c9 : t593.size ≤ 281474976710656
 rotate_left
 ·rw [if_neg c9] at H
  exact absurd H (by simp)
 rw [if_pos c9] at H
 have c9b0 := eq_true c9
 have c9b1 : decide (t593.size ≤ 281474976710656) = true := decide_eq_true c9
 clear c9
 obtain ⟨y594, hy594⟩ : ∃ y_ : List Int, y_ = (numsOf t593) := ⟨_, rfl⟩
 replace H : (if (t593.size : Int) < (28 + (ji7)) then (some false) else (if 0 ≤ (wrap64 ((wrap64 ((t593.size : Int) - (ji7))) + (wrap64 (Int.tdiv (Int.tmod (wrap64 (a1)) (8 * (ji7))) 8)))) then (if (wrap64 ((wrap64 ((t593.size : Int) - (ji7))) + (wrap64 (Int.tdiv (Int.tmod (wrap64 (a1)) (8 * (ji7))) 8)))) < (y594.length : Int) then (if 0 ≤ (Int.tmod (Int.tmod (wrap64 (a1)) (8 * (ji7))) 8) then ((packet_Classify.f (strOfNums (y594.set ((wrap64 ((wrap64 ((t593.size : Int) - (ji7))) + (wrap64 (Int.tdiv (Int.tmod (wrap64 (a1)) (8 * (ji7))) 8)))) : Int).toNat (Go.bits .xor .u8 (rd y594 (wrap64 ((wrap64 ((t593.size : Int) - (ji7))) + (wrap64 (Int.tdiv (Int.tmod (wrap64 (a1)) (8 * (ji7))) 8))))) (shl .u8 1 (Int.tmod (Int.tmod (wrap64 (a1)) (8 * (ji7))) 8)))))).bind fun bt599 => ((packet_Classify.f t593).bind fun bt615 => (if bt599.2.2.2.2.2.2.2.2.2.2.2.2.2.2 = 7 then (some (bt615.2.2.2.2.2.2.2.2.2.2.2.2.2.2 == 0)) else (some false)))) else (none)) else (none)) else (none))) = some r := by first | (rw [hy594]; with_reducible exact H) | (have H2_ := (Option.bind_some _ _).symm.trans H; rw [hy594]; with_reducible exact H2_) | (have H2_ := (Option.bind_some _ _).symm.trans H; with_reducible exact H2_) | with_reducible exact H | (rw [hy594]; exact H) | exact H
 have Ny594 := Aside0.mk hy594
 clear hy594
 by_cases c10 : (t593.size : Int) < (28 + (ji7))
 ·rw [if_pos c10] at H
  have c10b0 : decide ((t593.size : Int) < (28 + (ji7))) = true := decide_eq_true c10
  clear c10
  exact absurd ((Option.some.inj H).trans hr_) (by decide)
 rw [if_neg c10] at H
 have c10b0 : decide ((t593.size : Int) < (28 + (ji7))) = false := decide_eq_false c10
 clear c10
 obtain ⟨ji11, hji11⟩ : ∃ j_ : Int, (wrap64 ((wrap64 ((t593.size : Int) - (ji7))) + (wrap64 (Int.tdiv (Int.tmod (wrap64 (a1)) (8 * (ji7))) 8)))) = j_ := ⟨_, rfl⟩
 replace H : (if 0 ≤ (ji11) then (if (ji11) < (y594.length : Int) then (if 0 ≤ (Int.tmod (Int.tmod (wrap64 (a1)) (8 * (ji7))) 8) then ((packet_Classify.f (strOfNums (y594.set ((ji11) : Int).toNat (Go.bits .xor .u8 (rd y594 (ji11)) (shl .u8 1 (Int.tmod (Int.tmod (wrap64 (a1)) (8 * (ji7))) 8)))))).bind fun bt599 => ((packet_Classify.f t593).bind fun bt615 => (if bt599.2.2.2.2.2.2.2.2.2.2.2.2.2.2 = 7 then (some (bt615.2.2.2.2.2.2.2.2.2.2.2.2.2.2 == 0)) else (some false)))) else (none)) else (none)) else (none)) = some r := by first | (rw [hji11] at H; exact H) | (simp only [hji11] at H ⊢; exact H)
 (try rw [hji11] at A3)
 (try rw [hji11] at A6)
 have hji11w : (IntKind.i64.wrap ((wrap64 ((t593.size : Int) - (ji7))) + (wrap64 (Int.tdiv (Int.tmod (wrap64 (a1)) (8 * (ji7))) 8)))) = ji11 := (i64_w _).trans hji11
 by_cases c12 : 0 ≤ (ji11)
 rotate_left
 ·rw [if_neg c12] at H
  exact absurd H (by simp)
 rw [if_pos c12] at H
 have c12b0 : decide (0 ≤ (ji11)) = true := decide_eq_true c12
 clear c12
 by_cases c13 : (ji11) < (y594.length : Int)
 rotate_left
 ·rw [if_neg c13] at H
  exact absurd H (by simp)
 rw [if_pos c13] at H
 have c13b0 : decide ((ji11) < (y594.length : Int)) = true := decide_eq_true c13
 clear c13
 obtain ⟨ji14, hji14⟩ : ∃ j_ : Int, (Int.tmod (Int.tmod (wrap64 (a1)) (8 * (ji7))) 8) = j_ := ⟨_, rfl⟩
 replace H : (if 0 ≤ (ji14) then ((packet_Classify.f (strOfNums (y594.set ((ji11) : Int).toNat (Go.bits .xor .u8 (rd y594 (ji11)) (shl .u8 1 (ji14)))))).bind fun bt599 => ((packet_Classify.f t593).bind fun bt615 => (if bt599.2.2.2.2.2.2.2.2.2.2.2.2.2.2 = 7 then (some (bt615.2.2.2.2.2.2.2.2.2.2.2.2.2.2 == 0)) else (some false)))) else (none)) = some r := by first | (rw [hji14] at H; exact H) | (simp only [hji14] at H ⊢; exact H)
 (try rw [hji14] at A3)
 (try rw [hji14] at A6)
 by_cases c15 : 0 ≤ (ji14)
 rotate_left
 ·rw [if_neg c15] at H
  exact absurd H (by simp)
 rw [if_pos c15] at H
 have c15b0 := eq_true c15
 have c15b1 : decide (0 ≤ (ji14)) = true := decide_eq_true c15
 clear c15
 obtain ⟨ji16, hji16⟩ : ∃ j_ : Int, (shl .u8 1 (ji14)) = j_ := ⟨_, rfl⟩
 replace H : ((packet_Classify.f (strOfNums (y594.set ((ji11) : Int).toNat (Go.bits .xor .u8 (rd y594 (ji11)) (ji16))))).bind fun bt599 => ((packet_Classify.f t593).bind fun bt615 => (if bt599.2.2.2.2.2.2.2.2.2.2.2.2.2.2 = 7 then (some (bt615.2.2.2.2.2.2.2.2.2.2.2.2.2.2 == 0)) else (some false)))) = some r := by first | (rw [hji16] at H; exact H) | (simp only [hji16] at H ⊢; exact H)
 (try rw [hji16] at A3)
 (try rw [hji16] at A6)
 have hji16_ : (IntKind.u8.wrap (1 * 2 ^ min (ji14).toNat 8)) = ji16 := hji16
 have hji16z : (ji14) ≤ 8 → (IntKind.u8.wrap (1 * 2 ^ (ji14).toNat)) = ji16 := shl_small hji16
 have hji16u : (IntKind.u8.wrap (2 ^ min (ji14).toNat 8)) = ji16 := by have h_ := hji16_; rw [Int.one_mul] at h_; exact h_
 have hji16v : (ji14) ≤ 8 → (IntKind.u8.wrap (2 ^ (ji14).toNat)) = ji16 := fun hle_ => by have h_ := hji16z hle_; rw [Int.one_mul] at h_; exact h_
 obtain ⟨y598, hy598⟩ : ∃ y_ : List Int, y_ = (y594.set ((ji11) : Int).toNat (Go.bits .xor .u8 (rd y594 (ji11)) (ji16))) := ⟨_, rfl⟩
 replace H : ((packet_Classify.f (strOfNums y598)).bind fun bt599 => ((packet_Classify.f t593).bind fun bt615 => (if bt599.2.2.2.2.2.2.2.2.2.2.2.2.2.2 = 7 then (some (bt615.2.2.2.2.2.2.2.2.2.2.2.2.2.2 == 0)) else (some false)))) = some r := by first | (rw [hy598]; with_reducible exact H) | (have H2_ := (Option.bind_some _ _).symm.trans H; rw [hy598]; with_reducible exact H2_) | (have H2_ := (Option.bind_some _ _).symm.trans H; with_reducible exact H2_) | with_reducible exact H | (rw [hy598]; exact H) | exact H
 have Ny598 := Aside0.mk hy598
 clear hy598
 replace H := Option.bind_eq_some_iff.mp H
 obtain ⟨⟨t599, t600, t601, t602, t603, t604, t605, t606, t607, t608, t609, t610, t611, t612, t613⟩, A180, H⟩ := H
 (try set_option simprocs false in dsimp only at H)
 have A18 := Aside0.mk A180
 clear A180
 replace H := Option.bind_eq_some_iff.mp H
 obtain ⟨⟨t615, t616, t617, t618, t619, t620, t621, t622, t623, t624, t625, t626, t627, t628, t629⟩, A190, H⟩ := H
 (try set_option simprocs false in dsimp only at H)
 have A19 := Aside0.mk A190
 clear A190
 by_cases c20 : t613 = 7
 rotate_left
 ·rw [if_neg c20] at H
  have c20b0 : (t613 == 7) = false := beq_eq_false_iff_ne.mpr c20
  have c20b1 : (t613 != 7) = true := bne_iff_ne.mpr c20
  exact absurd ((Option.some.inj H).trans hr_) (by decide)
 rw [if_pos c20] at H
 have c20b0 : (t613 == 7) = true := beq_iff_eq.mpr c20
 have c20b1 : (t613 != 7) = false := bne_eq_false_iff_eq.mpr c20
 clear c20
 obtain rfl := Option.some.inj H
 go_enter Try.func6, Try.ntmps6
 try go_wp2_with (first | ((with_reducible refine gate_dst (N := 2) rfl ?_); refine box_event ?hg (N := 2) ?hd (cs := #[.int .u8 a0_0, .int .u32 a0_1, .int .u32 a0_2, .int .u16 a0_3, .int .u16 a0_4, .int .u8 a0_5, .int .u8 a0_6, .string a0_7, .bool a0_8, .int .u32 a0_9, .int .u32 a0_10]) (t := 25) ?hr ?_; (case hd => rfl); (case hg => rfl); (case hr => first | (go_simp; done) | (go_simp; rfl)); intro gb591 hg w21 hbox hb; have n0_ := Aside0.mk (below_step (BW HB) hb); have n1_ := Aside0.mk (hbox); have n2_ := Aside0.mk ((by rw [hg]; exact (below_size (BW HB)) : w.heap.size ≤ gb591)); have n3_ := Aside0.mk ((by rw [hg]; exact (below_size (BW HB)) : w.heap.size ≤ gb591)); clear HB; have HB := n0_; have BK591 := n1_; have GW591 := n2_; have GE591 := n3_; clear n0_ n1_ n2_ n3_; clear hb hbox hg) | ((with_reducible refine gate_callee (f := 9) rfl ?_); refine goesL_ (some 15) rfl rfl Try.func9 (by kernel_rfl) rfl #[] rfl AG ?_; (with_reducible refine (weighbridgelaw09_examples.calls  true _ A3.out).mono ?_); rintro e w22 ⟨rfl, hb⟩; (try clear A3); refine ⟨_, rfl, ?_⟩; have n0_ := Aside0.mk (blk_below (g := gb591) (o := .cells #[.int .u8 a0_0, .int .u32 a0_1, .int .u32 a0_2, .int .u16 a0_3, .int .u16 a0_4, .int .u8 a0_5, .int .u8 a0_6, .string a0_7, .bool a0_8, .int .u32 a0_9, .int .u32 a0_10] 25 (0, 0)) (BD BK591) hb); have n1_ := Aside0.mk (below_step (BW HB) hb); clear BK591; clear HB; have BK591 := n0_; have HB := n1_; clear n0_ n1_; (try clear hb); (try clear hb2); (try clear hk); (try clear hi); obtain ⟨hcz23_0, hcz23_1, hcz23_2, hcz23_3, hcz23_4, hcz23_5, hcz23_6, hcz23_7, hcz23_8, hcz23_9, hcz23_10, hfz23_0, hfz23_1, hfz23_2, hfz23_3, hfz23_4, hfz23_5, hfz23_6, hfz23_7, hfz23_8, hfz23_9, hfz23_10⟩ := blk11 BK591.out) | ((with_reducible refine gate_callee (f := 11) rfl ?_); refine goesL_ (some 28) rfl rfl Try.func11 (by kernel_rfl) rfl #[.agg #[.int .u8 (Int.tmod a0_0 2), .int .u32 a0_1, .int .u32 a0_2, .int .u16 a0_3, .int .u16 a0_4, .int .u8 a0_5, .int .u8 a0_6, .string ((⟨#[98]⟩ : ByteArray) ++ a0_7), .bool false, .int .u32 a0_9, .int .u32 a0_10]] rfl AG ?_; (with_reducible refine (weighbridgelaw09_Make_frame.calls (Int.tmod a0_0 2) a0_1 a0_2 a0_3 a0_4 a0_5 a0_6 ((⟨#[98]⟩ : ByteArray) ++ a0_7) false a0_9 a0_10 t593 _ A6.out).mono ?_); rintro e w24 ⟨rfl, hb⟩; (try clear A6); refine ⟨_, rfl, ?_⟩; have n0_ := Aside0.mk (blk_below (g := gb591) (o := .cells #[.int .u8 (Int.tmod a0_0 2), .int .u32 a0_1, .int .u32 a0_2, .int .u16 a0_3, .int .u16 a0_4, .int .u8 a0_5, .int .u8 a0_6, .string ((⟨#[98]⟩ : ByteArray) ++ a0_7), .bool false, .int .u32 a0_9, .int .u32 a0_10] 25 (0, 0)) (BE BK591) hb); have n1_ := Aside0.mk (below_step (BW HB) hb); clear BK591; clear HB; have BK591 := n0_; have HB := n1_; clear n0_ n1_; (try clear hb); (try clear hb2); (try clear hk); (try clear hi); obtain ⟨hcz25_0, hcz25_1, hcz25_2, hcz25_3, hcz25_4, hcz25_5, hcz25_6, hcz25_7, hcz25_8, hcz25_9, hcz25_10, hfz25_0, hfz25_1, hfz25_2, hfz25_3, hfz25_4, hfz25_5, hfz25_6, hfz25_7, hfz25_8, hfz25_9, hfz25_10⟩ := blk11 BK591.out) | ((with_reducible refine gate_dst (N := 39) rfl ?_); refine Kb.Q_conv (Kd.int .u8) 5 rfl (N := 39) rfl 9 47 _ rfl t593 rfl Try.underlying9 Try.underlying47 Try.underlying5 (ok := fun _ => True) trivial (of_decide_eq_true (by first | (with_reducible assumption) | assumption)) ?_; intro v595 w26 ho27 hb hg_ hnew_; clear hg_ hnew_; (first | rw [← Ny594.out] at ho27 | (simp only [Int.reduceToNat] at ho27; rw [← Ny594.out] at ho27)); have n0_ := Aside0.mk (Kb.Q_lower ho27 (below_size (BW HB))); have n1_ := Aside0.mk (blk_below (g := gb591) (o := .cells #[.int .u8 (Int.tmod a0_0 2), .int .u32 a0_1, .int .u32 a0_2, .int .u16 a0_3, .int .u16 a0_4, .int .u8 a0_5, .int .u8 a0_6, .string ((⟨#[98]⟩ : ByteArray) ++ a0_7), .bool false, .int .u32 a0_9, .int .u32 a0_10] 25 (0, 0)) (BD BK591) hb); have n2_ := Aside0.mk (below_step (BW HB) hb); clear BK591; clear HB; have HO596 := n0_; have BK591 := n1_; have HB := n2_; clear n0_ n1_ n2_; clear hb ho27))
 have n0_ := Aside0.mk (Kb.Q_drew HO596.out)
 have n1_ := Aside0.mk (blk_drew BK591.out)
 have n2_ := Aside0.mk (below_drew1 HB.out)
 clear HO596
 clear BK591
 clear HB
 have HO596 := n0_
 have BK591 := n1_
 have HB := n2_
 clear n0_ n1_ n2_
 obtain ⟨Ao29, co29, eo29, _⟩ := Kb.Q_slice HO596.out
 (first | subst eo29 | (injection eo29 with f1_ f2_ f3_; have f4_ := f1_.symm; have f5_ := f3_.symm; clear f1_ f2_ f3_; subst f4_; subst f5_))
 have p597 : 0 ≤ ((ji11) : Int) := of_decide_eq_true (by first | (with_reducible assumption) | assumption)
 have q597 : (ji11) < (y594.length : Int) := of_decide_eq_true (by first | (with_reducible assumption) | assumption)
 obtain ⟨ad597, e597, hx597_0⟩ := Kd.at_int (Kb.Q_reads' HO596.out).2.2 (ji11) p597 q597
 cases e597
 replace p597 := eq_true p597
 replace q597 := eq_true q597
 have p17 : 0 ≤ ((ji11) : Int) := of_decide_eq_true (by first | (with_reducible assumption) | assumption)
 have q17 : ((ji11) : Int) < ((y594.length : Int) : Int) := of_decide_eq_true (by first | (with_reducible assumption) | assumption)
 obtain ⟨go17, co17, eo17, gb17, gl17, cl17, HG17⟩ := Kb.Q_form HO596.out (by omega)
 (first | cases eo17 | (injection eo17 with ea_ en_ ec_; (first | subst ea_ | (injection ea_ with ea_; subst ea_)); subst ec_; clear en_))
 have GB17 := Aside0.mk gb17
 have GG17 := Aside0.mk HG17
 clear gb17 gl17 HG17
 (first | simp only [add_at, Nat.zero_add] at hx597_0 | skip)
 obtain ⟨hx17_0, hf17_0⟩ := Kb.Q_cell 0 HO596.out ((ji11) : Int) p17 q17
 replace p17 := eq_true p17
 replace q17 := eq_true q17
 have HP30 := (Kb.Q_putg HO596.out ((ji11) : Int) (of_decide_eq_true (by first | (with_reducible assumption) | assumption)) (by have h_ : ((ji11) : Int) < ((y594.length : Int) : Int) := of_decide_eq_true (by first | (with_reducible assumption) | assumption); first | exact h_ | (have e_ := (Kb.Q_reads' HO596.out).1; omega) | simpa using h_) (Go.bits .xor .u8 (rd y594 (ji11)) (ji16))).1
 rw [← Ny598.out] at HP30
 have HQ30 := Aside0.mk HP30
 clear HP30
 refine start_ (n := 12) (S := fun w' => w'.cell? ⟨go17, ((ji11)).toNat, none⟩ = some (.int .u8 (rd y594 (ji11)))) (ds := [11]) (bm 12 0x0) (by kernel_rfl) rfl rfl (hx597_0) (fun hHeld => ?_); refine with_tabW weighbridgelaw09_PacketSums.tab14 weighbridgelaw09_PacketSums.bits14 (fun HT_ HW_ => ?_)
 generalize w26.drew = w28 at HO596 BK591 HB GG17 HQ30 hf17_0 hx17_0 hx597_0 hHeld ⊢
 refine pure_ (i := 0) (N := some 52) (v := ?_) (a' := ?_) (bm 12 0x1) rfl rfl (any_of HT_.out (by kernel_rfl)) (fun _ _ _ h => h) (Or.inl ⟨by rfl, ?_⟩) ?_ ?_
 rotate_left
 ·intro w'
  go_simp
  with_reducible rfl
 rotate_left
 ·simp only [Act.put, zpA, zpO, zpS, i64_w, i32_w]
  rfl
 refine pure_ (i := 1) (N := some 53) (v := ?_) (a' := ?_) (bm 12 0x3) rfl rfl (any_of HT_.out (by kernel_rfl)) (fun _ _ _ h => h) (Or.inl ⟨by rfl, ?_⟩) ?_ ?_
 rotate_left
 ·intro w'
  go_simp
  with_reducible rfl
 rotate_left
 ·simp only [Act.put, zpA, zpO, zpS, i64_w, i32_w]
  rfl
 refine pure_ (i := 2) (N := some 54) (v := ?_) (a' := ?_) (bm 12 0x7) rfl rfl (any_of HT_.out (by kernel_rfl)) (fun _ _ _ h => h) (Or.inl ⟨by rfl, ?_⟩) ?_ ?_
 rotate_left
 ·intro w'
  go_simp
  with_reducible rfl
 rotate_left
 ·simp only [Act.put, zpA, zpO, zpS, i64_w, i32_w]
  rfl
 refine pure_ (i := 3) (N := some 55) (v := ?_) (a' := ?_) (bm 12 0xf) rfl rfl (any_of HT_.out (by kernel_rfl)) (fun _ _ _ h => h) (Or.inl ⟨by rfl, ?_⟩) ?_ ?_
 rotate_left
 ·intro w'
  go_simp
  with_reducible rfl
 rotate_left
 ·simp only [Act.put, zpA, zpO, zpS, i64_w, i32_w]
  rfl
 refine pure_ (i := 4) (N := some 56) (v := ?_) (a' := ?_) (bm 12 0x1f) rfl rfl (any_of HT_.out (by kernel_rfl)) (fun _ _ _ h => h) (Or.inl ⟨by rfl, ?_⟩) ?_ ?_
 rotate_left
 ·intro w'
  go_simp
  with_reducible rfl
 rotate_left
 ·simp only [Act.put, zpA, zpO, zpS, i64_w, i32_w]
  rfl
 refine pure_ (i := 6) (N := some 58) (v := ?_) (a' := ?_) (bm 12 0x5f) rfl rfl (any_of HT_.out (by kernel_rfl)) (fun _ _ _ h => h) (Or.inl ⟨by rfl, ?_⟩) ?_ ?_
 rotate_left
 ·intro w'
  go_simp
  with_reducible rfl
 rotate_left
 ·simp only [Act.put, zpA, zpO, zpS, i64_w, i32_w]
  rfl
 refine pure_ (i := 7) (N := some 59) (v := ?_) (a' := ?_) (bm 12 0xdf) rfl rfl (any_of HT_.out (by kernel_rfl)) (fun _ _ _ h => h) (Or.inl ⟨by rfl, ?_⟩) ?_ ?_
 rotate_left
 ·intro w'
  go_simp
  with_reducible rfl
 rotate_left
 ·simp only [Act.put, zpA, zpO, zpS, i64_w, i32_w]
  rfl
 refine pure_ (i := 8) (N := some 60) (v := ?_) (a' := ?_) (bm 12 0x1df) rfl rfl (any_of HT_.out (by kernel_rfl)) (fun _ _ _ h => h) (Or.inl ⟨by rfl, ?_⟩) ?_ ?_
 rotate_left
 ·intro w'
  go_simp
  with_reducible rfl
 rotate_left
 ·simp only [Act.put, zpA, zpO, zpS, i64_w, i32_w]
  rfl
 refine take_ (i := 5) (N := some 57) (v := ?_) (a' := ?_) (bm 12 0x1ff) rfl rfl (take_ofW HT_.out HW_.out (by kernel_rfl)) (fun _ _ _ h => h) (Or.inl ⟨by rfl, ?_⟩) hHeld ?_ ?_
 rotate_left
 ·intro w' s0
  go_simp
  with_reducible rfl
 rotate_left
 ·simp only [Act.put, zpA, zpO, zpS, i64_w, i32_w]
  rfl
 refine pure_ (i := 9) (N := some 61) (v := ?_) (a' := ?_) (bm 12 0x3ff) rfl rfl (any_of HT_.out (by kernel_rfl)) (fun _ _ _ h => h) (Or.inl ⟨by rfl, ?_⟩) ?_ ?_
 rotate_left
 ·intro w'
  go_simp
  with_reducible rfl
 rotate_left
 ·simp only [Act.put, zpA, zpO, zpS, i64_w, i32_w]
  rfl
 refine pure_ (i := 10) (N := some 62) (v := ?_) (a' := ?_) (bm 12 0x7ff) rfl rfl (any_of HT_.out (by kernel_rfl)) (fun _ _ _ h => h) (Or.inl ⟨by rfl, ?_⟩) ?_ ?_
 rotate_left
 ·intro w'
  go_simp
  with_reducible rfl
 rotate_left
 ·simp only [Act.put, zpA, zpO, zpS, i64_w, i32_w]
  rfl
 refine last_ (i := 11) (N := none) (bm 12 0xfff) rfl rfl (one_of HT_.out (by kernel_rfl)) (by decide) (fun K hK => ?_)
 refine skip_ (w1 := ?_) (by rfl) rfl ?_ ?_
 rotate_left
 ·go_simp
  rfl
 refine hK.out _ _ ?_
 clear hK K
 refine done_ (done_of HT_.out (by kernel_rfl)) ?_
 have n0_ : Aside0 (Kb.Q (Kd.int .u8) 5 (w28.setCell ⟨go17, ((ji11) : Int).toNat, none⟩ (.int .u8 (Go.bits .xor .u8 (rd y594 (ji11)) (ji16)))) w.heap.size (fun _ => True) (.slice (some ⟨go17, 0, none⟩) y594.length co29) y598) := ⟨by (with_reducible repeat (first | apply Kb.Q_alloc | apply Kb.Q_drewN | apply Kb.Q_drew)); exact HQ30.out⟩
 have n1_ : Aside0 ((w28.setCell ⟨go17, ((ji11) : Int).toNat, none⟩ (.int .u8 (Go.bits .xor .u8 (rd y594 (ji11)) (ji16)))).heap[gb591]? = some (.cells #[.int .u8 (Int.tmod a0_0 2), .int .u32 a0_1, .int .u32 a0_2, .int .u16 a0_3, .int .u16 a0_4, .int .u8 a0_5, .int .u8 a0_6, .string ((⟨#[98]⟩ : ByteArray) ++ a0_7), .bool false, .int .u32 a0_9, .int .u32 a0_10] 25 (0, 0))) := ⟨by (with_reducible repeat (first | refine blk_drewN ?_ _ | refine blk_drew ?_ | refine blk_alloc ?_ _)); refine blk_far ?_ (by have h_ := Kb.Q_ne HO596.out BK591.out (by decide); intro e_; exact h_ (by rw [e_]; rfl)) _; (with_reducible repeat (first | refine blk_drewN ?_ _ | refine blk_drew ?_ | refine blk_alloc ?_ _)); exact BK591.out⟩
 have n2_ : Aside0 (Below w.heap.size w (w28.setCell ⟨go17, ((ji11) : Int).toNat, none⟩ (.int .u8 (Go.bits .xor .u8 (rd y594 (ji11)) (ji16))))) := ⟨BW HB⟩
 (try clear HO596)
 (try clear BK591)
 (try clear HB)
 generalize (w28.setCell ⟨go17, ((ji11) : Int).toNat, none⟩ (.int .u8 (Go.bits .xor .u8 (rd y594 (ji11)) (ji16)))) = w31 at n0_ n1_ n2_ ⊢
 have HO596 := n0_
 have BK591 := n1_
 have HB := n2_
 clear n0_ n1_ n2_
 have hcv32 := Kb.Q_string (P := Try.prog) Try.underlying47 Try.underlying5 Try.underlying9 (by exact HO596.out)
 try go_wp2_with (first | ((with_reducible refine gate_callee (f := 12) rfl ?_); refine goesL_ (some 66) rfl rfl Try.func12 (by kernel_rfl) rfl #[.string (strOfNums y598)] rfl AG ?_; (with_reducible refine (packet_Classify.calls (strOfNums y598) t599 t600 t601 t602 t603 t604 t605 t606 t607 t608 t609 t610 t611 t612 t613 _ A18.out).mono ?_); rintro e w33 ⟨rfl, hb⟩; (try clear A18); refine ⟨_, rfl, ?_⟩; have n0_ := Aside0.mk (Kb.Q_below (by (with_reducible repeat (first | apply Kb.Q_alloc | apply Kb.Q_drewN | apply Kb.Q_drew)); exact HO596.out) hb); have n1_ := Aside0.mk (blk_below (g := gb591) (o := .cells #[.int .u8 (Int.tmod a0_0 2), .int .u32 a0_1, .int .u32 a0_2, .int .u16 a0_3, .int .u16 a0_4, .int .u8 a0_5, .int .u8 a0_6, .string ((⟨#[98]⟩ : ByteArray) ++ a0_7), .bool false, .int .u32 a0_9, .int .u32 a0_10] 25 (0, 0)) (BD BK591) hb); have n2_ := Aside0.mk (below_step (BW HB) hb); clear HO596; clear BK591; clear HB; have HO596 := n0_; have BK591 := n1_; have HB := n2_; clear n0_ n1_ n2_; (try clear hb); (try clear hb2); (try clear hk); (try clear hi)) | ((with_reducible refine gate_dst (N := 11) rfl ?_); refine box_event ?hg (N := 11) ?hd (cs := #[.int .i64 0, .int .i64 0, .int .i64 0, .int .i64 0, .int .u32 0, .int .u32 0, .int .i64 0, .int .i64 0, .int .i64 0, .int .i64 0, .int .u32 0, .int .u32 0, .int .i64 0, .int .i64 0]) (t := 32) ?hr ?_; (case hd => rfl); (case hg => rfl); (case hr => first | (go_simp; done) | (go_simp; rfl)); intro gb614 hg w34 hbox hb; have n0_ := Aside0.mk (Kb.Q_below (by (with_reducible repeat (first | apply Kb.Q_alloc | apply Kb.Q_drewN | apply Kb.Q_drew)); exact HO596.out) hb); have n1_ := Aside0.mk (blk_below (g := gb591) (o := .cells #[.int .u8 (Int.tmod a0_0 2), .int .u32 a0_1, .int .u32 a0_2, .int .u16 a0_3, .int .u16 a0_4, .int .u8 a0_5, .int .u8 a0_6, .string ((⟨#[98]⟩ : ByteArray) ++ a0_7), .bool false, .int .u32 a0_9, .int .u32 a0_10] 25 (0, 0)) (BD BK591) hb); have n2_ := Aside0.mk (below_step (BW HB) hb); have n3_ := Aside0.mk (hbox); have n4_ := Aside0.mk ((by rw [hg]; exact (below_size (BW HB)) : w.heap.size ≤ gb614)); have n5_ := Aside0.mk ((by rw [hg]; exact (below_size (BW HB)) : w.heap.size ≤ gb614)); have n6_ := Aside0.mk ((by rw [hg]; exact Nat.ne_of_lt (blk_lt (g := gb591) (o := .cells #[.int .u8 (Int.tmod a0_0 2), .int .u32 a0_1, .int .u32 a0_2, .int .u16 a0_3, .int .u16 a0_4, .int .u8 a0_5, .int .u8 a0_6, .string ((⟨#[98]⟩ : ByteArray) ++ a0_7), .bool false, .int .u32 a0_9, .int .u32 a0_10] 25 (0, 0)) (BD BK591)) : gb591 ≠ gb614)); have n7_ := Aside0.mk ((by rw [hg]; exact Nat.ne_of_gt (blk_lt (g := gb591) (o := .cells #[.int .u8 (Int.tmod a0_0 2), .int .u32 a0_1, .int .u32 a0_2, .int .u16 a0_3, .int .u16 a0_4, .int .u8 a0_5, .int .u8 a0_6, .string ((⟨#[98]⟩ : ByteArray) ++ a0_7), .bool false, .int .u32 a0_9, .int .u32 a0_10] 25 (0, 0)) (BD BK591)) : gb614 ≠ gb591)); clear HO596; clear BK591; clear HB; have HO596 := n0_; have BK591 := n1_; have HB := n2_; have BK614 := n3_; have GW614 := n4_; have GE614 := n5_; have NB591_614 := n6_; have NB614_591 := n7_; clear n0_ n1_ n2_ n3_ n4_ n5_ n6_ n7_; clear hb hbox hg; have hnb35 := NB614_591.out; have hnc35 := NB591_614.out; obtain ⟨hcz36_0, hcz36_1, hcz36_2, hcz36_3, hcz36_4, hcz36_5, hcz36_6, hcz36_7, hcz36_8, hcz36_9, hcz36_10, hcz36_11, hcz36_12, hcz36_13, hfz36_0, hfz36_1, hfz36_2, hfz36_3, hfz36_4, hfz36_5, hfz36_6, hfz36_7, hfz36_8, hfz36_9, hfz36_10, hfz36_11, hfz36_12, hfz36_13⟩ := blk14 BK614.out) | ((with_reducible refine gate_callee (f := 12) rfl ?_); refine goesL_ (some 71) rfl rfl Try.func12 (by kernel_rfl) rfl #[.string t593] rfl AG ?_; (with_reducible refine (packet_Classify.calls t593 t615 t616 t617 t618 t619 t620 t621 t622 t623 t624 t625 t626 t627 t628 t629 _ A19.out).mono ?_); rintro e w37 ⟨rfl, hb⟩; (try clear A19); refine ⟨_, rfl, ?_⟩; have n0_ := Aside0.mk (Kb.Q_below (by (with_reducible repeat (first | apply Kb.Q_alloc | apply Kb.Q_drewN | apply Kb.Q_drew)); exact (Kb.Q_mono (Kb.Q_far (p := ⟨gb614, 13, none⟩) (Kb.Q_far (p := ⟨gb614, 12, none⟩) (Kb.Q_far (p := ⟨gb614, 11, none⟩) (Kb.Q_far (p := ⟨gb614, 10, none⟩) (Kb.Q_far (p := ⟨gb614, 9, none⟩) (Kb.Q_far (p := ⟨gb614, 8, none⟩) (Kb.Q_far (p := ⟨gb614, 7, none⟩) (Kb.Q_far (p := ⟨gb614, 6, none⟩) (Kb.Q_far (p := ⟨gb614, 5, none⟩) (Kb.Q_far (p := ⟨gb614, 4, none⟩) (Kb.Q_far (p := ⟨gb614, 3, none⟩) (Kb.Q_far (p := ⟨gb614, 2, none⟩) (Kb.Q_far (p := ⟨gb614, 1, none⟩) (Kb.Q_far (p := ⟨gb614, 0, none⟩) (Kb.Q_types HO596.out BK614.out (by decide)) (fun _ hk => hk.2) (.int .i64 t599)) (fun _ hk => hk.2) (.int .i64 t600)) (fun _ hk => hk.2) (.int .i64 t601)) (fun _ hk => hk.2) (.int .i64 t602)) (fun _ hk => hk.2) (.int .u32 t603)) (fun _ hk => hk.2) (.int .u32 t604)) (fun _ hk => hk.2) (.int .i64 t605)) (fun _ hk => hk.2) (.int .i64 t606)) (fun _ hk => hk.2) (.int .i64 t607)) (fun _ hk => hk.2) (.int .i64 t608)) (fun _ hk => hk.2) (.int .u32 t609)) (fun _ hk => hk.2) (.int .u32 t610)) (fun _ hk => hk.2) (.int .i64 t611)) (fun _ hk => hk.2) (.int .i64 t612)) (fun _ h_ => h_.1))) hb); have n1_ := Aside0.mk (blk_below (g := gb591) (o := .cells #[.int .u8 (Int.tmod a0_0 2), .int .u32 a0_1, .int .u32 a0_2, .int .u16 a0_3, .int .u16 a0_4, .int .u8 a0_5, .int .u8 a0_6, .string ((⟨#[98]⟩ : ByteArray) ++ a0_7), .bool false, .int .u32 a0_9, .int .u32 a0_10] 25 (0, 0)) (BE BK591) hb); have n2_ := Aside0.mk (blk_below (g := gb614) (o := .cells #[.int .i64 t599, .int .i64 t600, .int .i64 t601, .int .i64 t602, .int .u32 t603, .int .u32 t604, .int .i64 t605, .int .i64 t606, .int .i64 t607, .int .i64 t608, .int .u32 t609, .int .u32 t610, .int .i64 t611, .int .i64 t612] 32 (0, 0)) (BE BK614) hb); have n3_ := Aside0.mk (below_step (BW HB) hb); clear HO596; clear BK591; clear BK614; clear HB; have HO596 := n0_; have BK591 := n1_; have BK614 := n2_; have HB := n3_; clear n0_ n1_ n2_ n3_; (try clear hb); (try clear hb2); (try clear hk); (try clear hi)) | ((with_reducible refine gate_dst (N := 13) rfl ?_); refine box_event ?hg (N := 13) ?hd (cs := #[.int .i64 0, .int .i64 0, .int .i64 0, .int .i64 0, .int .u32 0, .int .u32 0, .int .i64 0, .int .i64 0, .int .i64 0, .int .i64 0, .int .u32 0, .int .u32 0, .int .i64 0, .int .i64 0]) (t := 32) ?hr ?_; (case hd => rfl); (case hg => rfl); (case hr => first | (go_simp; done) | (go_simp; rfl)); intro gb630 hg w38 hbox hb; have n0_ := Aside0.mk (Kb.Q_below (by (with_reducible repeat (first | apply Kb.Q_alloc | apply Kb.Q_drewN | apply Kb.Q_drew)); exact HO596.out) hb); have n1_ := Aside0.mk (blk_below (g := gb591) (o := .cells #[.int .u8 (Int.tmod a0_0 2), .int .u32 a0_1, .int .u32 a0_2, .int .u16 a0_3, .int .u16 a0_4, .int .u8 a0_5, .int .u8 a0_6, .string ((⟨#[98]⟩ : ByteArray) ++ a0_7), .bool false, .int .u32 a0_9, .int .u32 a0_10] 25 (0, 0)) (BD BK591) hb); have n2_ := Aside0.mk (blk_below (g := gb614) (o := .cells #[.int .i64 t599, .int .i64 t600, .int .i64 t601, .int .i64 t602, .int .u32 t603, .int .u32 t604, .int .i64 t605, .int .i64 t606, .int .i64 t607, .int .i64 t608, .int .u32 t609, .int .u32 t610, .int .i64 t611, .int .i64 t612] 32 (0, 0)) (BD BK614) hb); have n3_ := Aside0.mk (below_step (BW HB) hb); have n4_ := Aside0.mk (hbox); have n5_ := Aside0.mk ((by rw [hg]; exact (below_size (BW HB)) : w.heap.size ≤ gb630)); have n6_ := Aside0.mk ((by rw [hg]; exact (below_size (BW HB)) : w.heap.size ≤ gb630)); have n7_ := Aside0.mk ((by rw [hg]; exact Nat.ne_of_lt (blk_lt (g := gb591) (o := .cells #[.int .u8 (Int.tmod a0_0 2), .int .u32 a0_1, .int .u32 a0_2, .int .u16 a0_3, .int .u16 a0_4, .int .u8 a0_5, .int .u8 a0_6, .string ((⟨#[98]⟩ : ByteArray) ++ a0_7), .bool false, .int .u32 a0_9, .int .u32 a0_10] 25 (0, 0)) (BD BK591)) : gb591 ≠ gb630)); have n8_ := Aside0.mk ((by rw [hg]; exact Nat.ne_of_gt (blk_lt (g := gb591) (o := .cells #[.int .u8 (Int.tmod a0_0 2), .int .u32 a0_1, .int .u32 a0_2, .int .u16 a0_3, .int .u16 a0_4, .int .u8 a0_5, .int .u8 a0_6, .string ((⟨#[98]⟩ : ByteArray) ++ a0_7), .bool false, .int .u32 a0_9, .int .u32 a0_10] 25 (0, 0)) (BD BK591)) : gb630 ≠ gb591)); have n9_ := Aside0.mk ((by rw [hg]; exact Nat.ne_of_lt (blk_lt (g := gb614) (o := .cells #[.int .i64 t599, .int .i64 t600, .int .i64 t601, .int .i64 t602, .int .u32 t603, .int .u32 t604, .int .i64 t605, .int .i64 t606, .int .i64 t607, .int .i64 t608, .int .u32 t609, .int .u32 t610, .int .i64 t611, .int .i64 t612] 32 (0, 0)) (BD BK614)) : gb614 ≠ gb630)); have n10_ := Aside0.mk ((by rw [hg]; exact Nat.ne_of_gt (blk_lt (g := gb614) (o := .cells #[.int .i64 t599, .int .i64 t600, .int .i64 t601, .int .i64 t602, .int .u32 t603, .int .u32 t604, .int .i64 t605, .int .i64 t606, .int .i64 t607, .int .i64 t608, .int .u32 t609, .int .u32 t610, .int .i64 t611, .int .i64 t612] 32 (0, 0)) (BD BK614)) : gb630 ≠ gb614)); clear HO596; clear BK591; clear BK614; clear HB; have HO596 := n0_; have BK591 := n1_; have BK614 := n2_; have HB := n3_; have BK630 := n4_; have GW630 := n5_; have GE630 := n6_; have NB591_630 := n7_; have NB630_591 := n8_; have NB614_630 := n9_; have NB630_614 := n10_; clear n0_ n1_ n2_ n3_ n4_ n5_ n6_ n7_ n8_ n9_ n10_; clear hb hbox hg; have hnb39 := NB630_591.out; have hnc39 := NB591_630.out; have hnb40 := NB630_614.out; have hnc40 := NB614_630.out; obtain ⟨hcz41_0, hcz41_1, hcz41_2, hcz41_3, hcz41_4, hcz41_5, hcz41_6, hcz41_7, hcz41_8, hcz41_9, hcz41_10, hcz41_11, hcz41_12, hcz41_13, hfz41_0, hfz41_1, hfz41_2, hfz41_3, hfz41_4, hfz41_5, hfz41_6, hfz41_7, hfz41_8, hfz41_9, hfz41_10, hfz41_11, hfz41_12, hfz41_13⟩ := blk14 BK630.out))
 go_ret
 exact ⟨by first | rfl | (simp [errW_none, errW_some] <;> rfl) | (simp only [← hji7, ← hji11, ← hji14, ← hji16]; first | rfl | (simp [errW_none, errW_some] <;> rfl)) | (simp [*, errW_none, errW_some] <;> rfl), BW HB⟩

/-- THE ONE PURE STATEMENT of weighbridgelaw09_PacketSums: yours. -/
def weighbridgelaw09_PacketSums.Pure : Prop := ∀ (a0_0 : Int) (a0_1 : Int) (a0_2 : Int) (a0_3 : Int) (a0_4 : Int) (a0_5 : Int) (a0_6 : Int) (a0_7 : ByteArray) (a0_8 : Bool) (a0_9 : Int) (a0_10 : Int) (a1 : Int), (Lit.int .u8 a0_0).wf = true → (Lit.int .u32 a0_1).wf = true → (Lit.int .u32 a0_2).wf = true → (Lit.int .u16 a0_3).wf = true → (Lit.int .u16 a0_4).wf = true → (Lit.int .u8 a0_5).wf = true → (Lit.int .u8 a0_6).wf = true → a0_7.size ≤ 140737488351232 → (Lit.int .u32 a0_9).wf = true → (Lit.int .u32 a0_10).wf = true → (Lit.int .u16 a1).wf = true → weighbridgelaw09_PacketSums.f a0_0 a0_1 a0_2 a0_3 a0_4 a0_5 a0_6 a0_7 a0_8 a0_9 a0_10 a1 = some true
theorem weighbridgelaw09_PacketSums.walk (P : weighbridgelaw09_PacketSums.Pure) (a0_0 : Int) (a0_1 : Int) (a0_2 : Int) (a0_3 : Int) (a0_4 : Int) (a0_5 : Int) (a0_6 : Int) (a0_7 : ByteArray) (a0_8 : Bool) (a0_9 : Int) (a0_10 : Int) (a1 : Int) (w : World) (w0_0 : (Lit.int .u8 a0_0).wf = true) (w0_1 : (Lit.int .u32 a0_1).wf = true) (w0_2 : (Lit.int .u32 a0_2).wf = true) (w0_3 : (Lit.int .u16 a0_3).wf = true) (w0_4 : (Lit.int .u16 a0_4).wf = true) (w0_5 : (Lit.int .u8 a0_5).wf = true) (w0_6 : (Lit.int .u8 a0_6).wf = true) (w0_7 : a0_7.size ≤ 140737488351232) (w0_9 : (Lit.int .u32 a0_9).wf = true) (w0_10 : (Lit.int .u32 a0_10).wf = true) (w1 : (Lit.int .u16 a1).wf = true) :
  Calls Try.prog 6 #[.agg #[.int .u8 a0_0, .int .u32 a0_1, .int .u32 a0_2, .int .u16 a0_3, .int .u16 a0_4, .int .u8 a0_5, .int .u8 a0_6, .string a0_7, .bool a0_8, .int .u32 a0_9, .int .u32 a0_10], .int .u16 a1] w fun e w' => e = .returned (.bool true) ∧ Below w.heap.size w w' := by
 have h := P a0_0 a0_1 a0_2 a0_3 a0_4 a0_5 a0_6 a0_7 a0_8 a0_9 a0_10 a1 w0_0 w0_1 w0_2 w0_3 w0_4 w0_5 w0_6 w0_7 w0_9 w0_10 w1
 refine (weighbridgelaw09_PacketSums.calls a0_0 a0_1 a0_2 a0_3 a0_4 a0_5 a0_6 a0_7 a0_8 a0_9 a0_10 a1 true w h rfl).mono ?_
 rintro e w' ⟨rfl, hd⟩
 exact ⟨rfl, hd⟩
def weighbridgelaw09_PacketSums.PureU : Prop := ∀ (a0_0 : Int) (a0_1 : Int) (a0_2 : Int) (a0_3 : Int) (a0_4 : Int) (a0_5 : Int) (a0_6 : Int) (a0_7 : ByteArray) (a0_8 : Bool) (a0_9 : Int) (a0_10 : Int) (a1 : Int), (Lit.int .u8 a0_0).wf = true → (Lit.int .u32 a0_1).wf = true → (Lit.int .u32 a0_2).wf = true → (Lit.int .u16 a0_3).wf = true → (Lit.int .u16 a0_4).wf = true → (Lit.int .u8 a0_5).wf = true → (Lit.int .u8 a0_6).wf = true → a0_7.size ≤ 1048576 → (Lit.int .u32 a0_9).wf = true → (Lit.int .u32 a0_10).wf = true → (Lit.int .u16 a1).wf = true → weighbridgelaw09_PacketSums.f a0_0 a0_1 a0_2 a0_3 a0_4 a0_5 a0_6 a0_7 a0_8 a0_9 a0_10 a1 = some true
theorem weighbridgelaw09_PacketSums.walkU (P : weighbridgelaw09_PacketSums.PureU) (a0_0 : Int) (a0_1 : Int) (a0_2 : Int) (a0_3 : Int) (a0_4 : Int) (a0_5 : Int) (a0_6 : Int) (a0_7 : ByteArray) (a0_8 : Bool) (a0_9 : Int) (a0_10 : Int) (a1 : Int) (w : World) (w0_0 : (Lit.int .u8 a0_0).wf = true) (w0_1 : (Lit.int .u32 a0_1).wf = true) (w0_2 : (Lit.int .u32 a0_2).wf = true) (w0_3 : (Lit.int .u16 a0_3).wf = true) (w0_4 : (Lit.int .u16 a0_4).wf = true) (w0_5 : (Lit.int .u8 a0_5).wf = true) (w0_6 : (Lit.int .u8 a0_6).wf = true) (w0_7 : a0_7.size ≤ 1048576) (w0_9 : (Lit.int .u32 a0_9).wf = true) (w0_10 : (Lit.int .u32 a0_10).wf = true) (w1 : (Lit.int .u16 a1).wf = true) :
  Calls Try.prog 6 #[.agg #[.int .u8 a0_0, .int .u32 a0_1, .int .u32 a0_2, .int .u16 a0_3, .int .u16 a0_4, .int .u8 a0_5, .int .u8 a0_6, .string a0_7, .bool a0_8, .int .u32 a0_9, .int .u32 a0_10], .int .u16 a1] w fun e w' => e = .returned (.bool true) ∧ Below w.heap.size w w' := by
 have h := P a0_0 a0_1 a0_2 a0_3 a0_4 a0_5 a0_6 a0_7 a0_8 a0_9 a0_10 a1 w0_0 w0_1 w0_2 w0_3 w0_4 w0_5 w0_6 w0_7 w0_9 w0_10 w1
 refine (weighbridgelaw09_PacketSums.calls a0_0 a0_1 a0_2 a0_3 a0_4 a0_5 a0_6 a0_7 a0_8 a0_9 a0_10 a1 true w h rfl).mono ?_
 rintro e w' ⟨rfl, hd⟩
 exact ⟨rfl, hd⟩

end Go.Proofs.Ytkganedlhcepfaa.Pr
