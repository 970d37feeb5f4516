-- trimmed by trims.py
-- Written by a program of the session (wip/tools) out of the translation, over the kit's print; with pieces of the session's own.
import Derived.Test.YtkganedlhcepfaaPr0
import Derived.Test.YtkganedlhcepfaaPr2
import Derived.Test.YtkganedlhcepfaaPr9
import Derived.Test.YtkganedlhcepfaaPr18
namespace Go.Proofs.Ytkganedlhcepfaa.Pr
open Go.RowKit Go.Proofs.YtkganedlhcepfaaW.PrintWords Go.Proofs.YtkganedlhcepfaaW.PrintLast Go.Proofs.YtkganedlhcepfaaW.PrintMore
attribute [local go_sem] max2_int min2_int max_two min_two max_three min_three max_four min_four   -- for this text's walks alone
set_option linter.unusedVariables false
set_option linter.unusedSimpArgs false
open Go.Proofs.Ytkganedlhcepfaa.Sp
/-! ### weighbridgelaw09_PacketParts: function 5 -/
def weighbridgelaw09_PacketParts.f (a0_0 : Int) (a0_1 : Int) (a0_2 : Int) (a0_3 : Int) (a0_4 : Int) (a0_5 : Int) (a0_6 : Int) (a0_7 : ByteArray) (a0_8 : Bool) (a0_9 : Int) (a0_10 : Int) (a1 : Int) (a2 : Int) : Option (Bool) := (weighbridgelaw09_examples.f).bind fun t535 => (if t535 = true then ((weighbridgelaw09_Make_frame.f (Int.tmod a0_0 2) a0_1 a0_2 a0_3 a0_4 a0_5 a0_6 a0_7 a0_8 a0_9 a0_10).bind fun t536 => (if (t536.size : Int) < 28 then (some false) else (if 20 ≤ (t536.size : Int) then ((weighbridgeref04_Build.f 0 0 0 (wrap64 (1 + (wrap64 (Int.tmod a1 8191)))) 5 6 a0_1 a0_2 (⟨#[]⟩ : ByteArray) (t536.extract 20 t536.size)).bind fun bt537 => ((weighbridgeref04_Build.f 0 0 1 0 5 6 a0_1 a0_2 (⟨#[]⟩ : ByteArray) (t536.extract 20 t536.size)).bind fun bt539 => ((weighbridgeref04_Build.f 0 0 0 0 5 (wrap64 (a2)) a0_1 a0_2 (⟨#[]⟩ : ByteArray) (t536.extract 20 t536.size)).bind fun bt541 => ((packet_Classify.f bt537.1).bind fun bt543 => ((packet_Classify.f bt539.1).bind fun bt559 => ((packet_Classify.f bt541.1).bind fun bt575 => (if a2 = 1 then (if bt537.2 = 0 then (if bt539.2 = 0 then (if bt541.2 = 0 then (if bt543.2.2.2.2.2.2.2.2.2.2.2.2.2.2 = 8 then (if bt559.2.2.2.2.2.2.2.2.2.2.2.2.2.2 = 8 then (some true) else (some false)) else (some false)) else (some false)) else (some false)) else (some false)) else (if a2 = 6 then (if bt537.2 = 0 then (if bt539.2 = 0 then (if bt541.2 = 0 then (if bt543.2.2.2.2.2.2.2.2.2.2.2.2.2.2 = 8 then (if bt559.2.2.2.2.2.2.2.2.2.2.2.2.2.2 = 8 then (some ((bt575.2.2.2.2.2.2.2.2.2.2.2.2.2.2 == 9) == (!true))) else (some false)) else (some false)) else (some false)) else (some false)) else (some false)) else (if bt537.2 = 0 then (if bt539.2 = 0 then (if bt541.2 = 0 then (if bt543.2.2.2.2.2.2.2.2.2.2.2.2.2.2 = 8 then (if bt559.2.2.2.2.2.2.2.2.2.2.2.2.2.2 = 8 then (some ((bt575.2.2.2.2.2.2.2.2.2.2.2.2.2.2 == 9) == (!(a2 == 17)))) else (some false)) else (some false)) else (some false)) else (some false)) else (some false)))))))))) else (none)))) else (some false))
def weighbridgelaw09_PacketParts.T9 : Bool × List (List Nat × List Nat) := (true, [([], []), ([], []), ([1], [1]), ([], []), ([3], [3]), ([0, 2, 4], [0, 2, 4]), ([], []), ([6], [6]), ([5, 7], [5, 7]), ([8], [8]), ([9], [9]), ([9], [9]), ([10, 8, 0, 1, 2, 3, 4, 5, 6, 7, 8, 9, 10], [10]), ([11, 12, 0, 1, 2, 3, 4, 5, 6, 7, 8, 9, 10, 11, 12], [11])])
def weighbridgelaw09_PacketParts.B9 : List Nat := [0, 0, 2, 0, 8, 31, 0, 64, 255, 511, 1023, 1023, 2047, 8191]
theorem weighbridgelaw09_PacketParts.tab9 : rtab .any (opsOf Try.f5 9) = weighbridgelaw09_PacketParts.T9 := by kernel_rfl
theorem weighbridgelaw09_PacketParts.bits9 : waitsOk weighbridgelaw09_PacketParts.T9.2 weighbridgelaw09_PacketParts.B9 = true := by kernel_rfl
def weighbridgelaw09_PacketParts.T10 : Bool × List (List Nat × List Nat) := (true, [([], []), ([0], [0]), ([], []), ([2], [2]), ([1, 3], [1, 3]), ([], []), ([5], [5]), ([4, 6], [4, 6]), ([7], [7]), ([8], [8]), ([8], [8]), ([9, 7, 0, 1, 2, 3, 4, 5, 6, 7, 8, 9], [9]), ([10, 11, 0, 1, 2, 3, 4, 5, 6, 7, 8, 9, 10, 11], [10])])
def weighbridgelaw09_PacketParts.B10 : List Nat := [0, 1, 0, 4, 15, 0, 32, 127, 255, 511, 511, 1023, 4095]
theorem weighbridgelaw09_PacketParts.tab10 : rtab .any (opsOf Try.f5 10) = weighbridgelaw09_PacketParts.T10 := by kernel_rfl
theorem weighbridgelaw09_PacketParts.bits10 : waitsOk weighbridgelaw09_PacketParts.T10.2 weighbridgelaw09_PacketParts.B10 = true := by kernel_rfl
def weighbridgelaw09_PacketParts.T11 : Bool × List (List Nat × List Nat) := (true, [([], []), ([0], [0]), ([], []), ([2], [2]), ([], []), ([4], [4]), ([1, 3, 5], [1, 3, 5]), ([], []), ([7], [7]), ([6, 8], [6, 8]), ([9], [9]), ([10], [10]), ([10], [10]), ([11, 9, 0, 1, 2, 3, 4, 5, 6, 7, 8, 9, 10, 11], [11]), ([12, 13, 0, 1, 2, 3, 4, 5, 6, 7, 8, 9, 10, 11, 12, 13], [12])])
def weighbridgelaw09_PacketParts.B11 : List Nat := [0, 1, 0, 4, 0, 16, 63, 0, 128, 511, 1023, 2047, 2047, 4095, 16383]
theorem weighbridgelaw09_PacketParts.tab11 : rtab .any (opsOf Try.f5 11) = weighbridgelaw09_PacketParts.T11 := by kernel_rfl
theorem weighbridgelaw09_PacketParts.bits11 : waitsOk weighbridgelaw09_PacketParts.T11.2 weighbridgelaw09_PacketParts.B11 = true := by kernel_rfl
set_option maxHeartbeats 8000000 in
set_option maxRecDepth 100000 in
theorem weighbridgelaw09_PacketParts.calls (a0_0 : Int) (a0_1 : Int) (a0_2 : Int) (a0_3 : Int) (a0_4 : Int) (a0_5 : Int) (a0_6 : Int) (a0_7 : ByteArray) (a0_8 : Bool) (a0_9 : Int) (a0_10 : Int) (a1 : Int) (a2 : Int) (r : Bool) (w : World) (h : weighbridgelaw09_PacketParts.f a0_0 a0_1 a0_2 a0_3 a0_4 a0_5 a0_6 a0_7 a0_8 a0_9 a0_10 a1 a2 = some r) (hr_ : r = true) :
  Calls Try.prog 5 #[.agg #[.int .u8 a0_0, .int .u32 a0_1, .int .u32 a0_2, .int .u16 a0_3, .int .u16 a0_4, .int .u8 a0_5, .int .u8 a0_6, .string a0_7, .bool a0_8, .int .u32 a0_9, .int .u32 a0_10], .int .u16 a1, .int .u8 a2] w fun e w' => e = .returned (.bool r) ∧ Below w.heap.size w w' := by
 have hu25 := Try.underlying25
 have hu45 := Try.underlying45
 have hu32 := Try.underlying32
 have HB := Aside0.mk (Below.refl w.heap.size w)
 have H := h
 unfold weighbridgelaw09_PacketParts.f at H
 clear h
 replace H := Option.bind_eq_some_iff.mp H
 obtain ⟨t535, A40, H⟩ := H
 (try set_option simprocs false in dsimp only at H)
 have A4 := Aside0.mk A40
 clear A40
 by_cases c5 : t535 = true
 rotate_left
 ·replace c5 := Bool.eq_false_iff.mpr c5
  subst c5
  have H1 : (some false) = some r := by rw [if_neg (show ¬ (false = true) by decide)] at H; exact H
  clear H
  have H := H1
  clear H1
  exact absurd ((Option.some.inj H).trans hr_) (by decide)
 subst c5
 first | rw [if_pos rfl] at H | rw [if_pos trivial] at H
 replace H := Option.bind_eq_some_iff.mp H
 obtain ⟨t536, A60, H⟩ := H
 (try set_option simprocs false in dsimp only at H)
 have A6 := Aside0.mk A60
 clear A60
 by_cases c7 : (t536.size : Int) < 28
 ·rw [if_pos c7] at H
  have c7b0 : decide ((t536.size : Int) < 28) = true := decide_eq_true c7
  have c7b1 : decide (t536.size < 28) = true := decide_eq_true (by omega)
  clear c7
  exact absurd ((Option.some.inj H).trans hr_) (by decide)
 rw [if_neg c7] at H
 have c7b0 : decide ((t536.size : Int) < 28) = false := decide_eq_false c7
 have c7b1 : decide (t536.size < 28) = false := decide_eq_false (by omega)
 clear c7
 by_cases c8 : 20 ≤ (t536.size : Int)
 rotate_left
 ·rw [if_neg c8] at H
  exact absurd H (by simp)
 rw [if_pos c8] at H
 have c8b0 := eq_true c8
 have c8b1 : decide (20 ≤ (t536.size : Int)) = true := decide_eq_true c8
 clear c8
 replace H := Option.bind_eq_some_iff.mp H
 obtain ⟨⟨t537, t538⟩, A90, H⟩ := H
 (try set_option simprocs false in dsimp only at H)
 have A9 := Aside0.mk A90
 clear A90
 have c10b0 := eq_true (of_decide_eq_true (by first | (with_reducible assumption) | assumption) : 20 ≤ (t536.size : Int))
 replace H := Option.bind_eq_some_iff.mp H
 obtain ⟨⟨t539, t540⟩, A110, H⟩ := H
 (try set_option simprocs false in dsimp only at H)
 have A11 := Aside0.mk A110
 clear A110
 have c12b0 := eq_true (of_decide_eq_true (by first | (with_reducible assumption) | assumption) : 20 ≤ (t536.size : Int))
 replace H := Option.bind_eq_some_iff.mp H
 obtain ⟨⟨t541, t542⟩, A130, H⟩ := H
 (try set_option simprocs false in dsimp only at H)
 have A13 := Aside0.mk A130
 clear A130
 replace H := Option.bind_eq_some_iff.mp H
 obtain ⟨⟨t543, t544, t545, t546, t547, t548, t549, t550, t551, t552, t553, t554, t555, t556, t557⟩, A140, H⟩ := H
 (try set_option simprocs false in dsimp only at H)
 have A14 := Aside0.mk A140
 clear A140
 replace H := Option.bind_eq_some_iff.mp H
 obtain ⟨⟨t559, t560, t561, t562, t563, t564, t565, t566, t567, t568, t569, t570, t571, t572, t573⟩, A150, H⟩ := H
 (try set_option simprocs false in dsimp only at H)
 have A15 := Aside0.mk A150
 clear A150
 replace H := Option.bind_eq_some_iff.mp H
 obtain ⟨⟨t575, t576, t577, t578, t579, t580, t581, t582, t583, t584, t585, t586, t587, t588, t589⟩, A160, H⟩ := H
 (try set_option simprocs false in dsimp only at H)
 have A16 := Aside0.mk A160
 clear A160
 by_cases c17 : a2 = 1
 ·rw [if_pos c17] at H
  have c17b0 : (a2 == 1) = true := beq_iff_eq.mpr c17
  have c17b1 : (a2 != 1) = false := bne_eq_false_iff_eq.mpr c17
  clear c17
  by_cases c18 : t538 = 0
  rotate_left
  ·rw [if_neg c18] at H
   have c18b0 : (t538 == 0) = false := beq_eq_false_iff_ne.mpr c18
   have c18b1 : (t538 != 0) = true := bne_iff_ne.mpr c18
   exact absurd ((Option.some.inj H).trans hr_) (by decide)
  rw [if_pos c18] at H
  have c18b0 : (t538 == 0) = true := beq_iff_eq.mpr c18
  have c18b1 : (t538 != 0) = false := bne_eq_false_iff_eq.mpr c18
  clear c18
  by_cases c19 : t540 = 0
  rotate_left
  ·rw [if_neg c19] at H
   have c19b0 : (t540 == 0) = false := beq_eq_false_iff_ne.mpr c19
   have c19b1 : (t540 != 0) = true := bne_iff_ne.mpr c19
   exact absurd ((Option.some.inj H).trans hr_) (by decide)
  rw [if_pos c19] at H
  have c19b0 : (t540 == 0) = true := beq_iff_eq.mpr c19
  have c19b1 : (t540 != 0) = false := bne_eq_false_iff_eq.mpr c19
  clear c19
  by_cases c20 : t542 = 0
  rotate_left
  ·rw [if_neg c20] at H
   have c20b0 : (t542 == 0) = false := beq_eq_false_iff_ne.mpr c20
   have c20b1 : (t542 != 0) = true := bne_iff_ne.mpr c20
   exact absurd ((Option.some.inj H).trans hr_) (by decide)
  rw [if_pos c20] at H
  have c20b0 : (t542 == 0) = true := beq_iff_eq.mpr c20
  have c20b1 : (t542 != 0) = false := bne_eq_false_iff_eq.mpr c20
  clear c20
  by_cases c21 : t557 = 8
  rotate_left
  ·rw [if_neg c21] at H
   have c21b0 : (t557 == 8) = false := beq_eq_false_iff_ne.mpr c21
   have c21b1 : (t557 != 8) = true := bne_iff_ne.mpr c21
   exact absurd ((Option.some.inj H).trans hr_) (by decide)
  rw [if_pos c21] at H
  have c21b0 : (t557 == 8) = true := beq_iff_eq.mpr c21
  have c21b1 : (t557 != 8) = false := bne_eq_false_iff_eq.mpr c21
  clear c21
  by_cases c22 : t573 = 8
  rotate_left
  ·rw [if_neg c22] at H
   have c22b0 : (t573 == 8) = false := beq_eq_false_iff_ne.mpr c22
   have c22b1 : (t573 != 8) = true := bne_iff_ne.mpr c22
   exact absurd ((Option.some.inj H).trans hr_) (by decide)
  rw [if_pos c22] at H
  have c22b0 : (t573 == 8) = true := beq_iff_eq.mpr c22
  have c22b1 : (t573 != 8) = false := bne_eq_false_iff_eq.mpr c22
  clear c22
  obtain rfl := Option.some.inj H
  go_enter Try.func5, Try.ntmps5
  try go_wp2_with (first | ((with_reducible refine gate_dst (N := 3) rfl ?_); refine box_event ?hg (N := 3) ?hd (cs := #[.int .u8 a0_0, .int .u32 a0_1, .int .u32 a0_2, .int .u16 a0_3, .int .u16 a0_4, .int .u8 a0_5, .int .u8 a0_6, .string a0_7, .bool a0_8, .int .u32 a0_9, .int .u32 a0_10]) (t := 25) ?hr ?_; (case hd => rfl); (case hg => rfl); (case hr => first | (go_simp; done) | (go_simp; rfl)); intro gb534 hg w23 hbox hb; have n0_ := Aside0.mk (below_step (BW HB) hb); have n1_ := Aside0.mk (hbox); have n2_ := Aside0.mk ((by rw [hg]; exact (below_size (BW HB)) : w.heap.size ≤ gb534)); have n3_ := Aside0.mk ((by rw [hg]; exact (below_size (BW HB)) : w.heap.size ≤ gb534)); clear HB; have HB := n0_; have BK534 := n1_; have GW534 := n2_; have GE534 := n3_; clear n0_ n1_ n2_ n3_; clear hb hbox hg) | ((with_reducible refine gate_callee (f := 9) rfl ?_); refine goesL_ (some 23) rfl rfl Try.func9 (by kernel_rfl) rfl #[] rfl AG ?_; (with_reducible refine (weighbridgelaw09_examples.calls  true _ A4.out).mono ?_); rintro e w24 ⟨rfl, hb⟩; (try clear A4); refine ⟨_, rfl, ?_⟩; have n0_ := Aside0.mk (blk_below (g := gb534) (o := .cells #[.int .u8 a0_0, .int .u32 a0_1, .int .u32 a0_2, .int .u16 a0_3, .int .u16 a0_4, .int .u8 a0_5, .int .u8 a0_6, .string a0_7, .bool a0_8, .int .u32 a0_9, .int .u32 a0_10] 25 (0, 0)) (BD BK534) hb); have n1_ := Aside0.mk (below_step (BW HB) hb); clear BK534; clear HB; have BK534 := n0_; have HB := n1_; clear n0_ n1_; (try clear hb); (try clear hb2); (try clear hk); (try clear hi); obtain ⟨hcz25_0, hcz25_1, hcz25_2, hcz25_3, hcz25_4, hcz25_5, hcz25_6, hcz25_7, hcz25_8, hcz25_9, hcz25_10, hfz25_0, hfz25_1, hfz25_2, hfz25_3, hfz25_4, hfz25_5, hfz25_6, hfz25_7, hfz25_8, hfz25_9, hfz25_10⟩ := blk11 BK534.out) | ((with_reducible refine gate_callee (f := 11) rfl ?_); refine goesL_ (some 31) rfl rfl Try.func11 (by kernel_rfl) rfl #[.agg #[.int .u8 (Int.tmod a0_0 2), .int .u32 a0_1, .int .u32 a0_2, .int .u16 a0_3, .int .u16 a0_4, .int .u8 a0_5, .int .u8 a0_6, .string a0_7, .bool a0_8, .int .u32 a0_9, .int .u32 a0_10]] rfl AG ?_; (with_reducible refine (weighbridgelaw09_Make_frame.calls (Int.tmod a0_0 2) a0_1 a0_2 a0_3 a0_4 a0_5 a0_6 a0_7 a0_8 a0_9 a0_10 t536 _ A6.out).mono ?_); rintro e w26 ⟨rfl, hb⟩; (try clear A6); refine ⟨_, rfl, ?_⟩; have n0_ := Aside0.mk (blk_below (g := gb534) (o := .cells #[.int .u8 (Int.tmod a0_0 2), .int .u32 a0_1, .int .u32 a0_2, .int .u16 a0_3, .int .u16 a0_4, .int .u8 a0_5, .int .u8 a0_6, .string a0_7, .bool a0_8, .int .u32 a0_9, .int .u32 a0_10] 25 (0, 0)) (BE BK534) hb); have n1_ := Aside0.mk (below_step (BW HB) hb); clear BK534; clear HB; have BK534 := n0_; have HB := n1_; clear n0_ n1_; (try clear hb); (try clear hb2); (try clear hk); (try clear hi)))
  have n0_ := Aside0.mk (blk_drew BK534.out)
  have n1_ := Aside0.mk (below_drew1 HB.out)
  clear BK534
  clear HB
  have BK534 := n0_
  have HB := n1_
  clear n0_ n1_
  refine start_ (n := 14) (S := fun w' => w'.cell? ⟨gb534, 0, none⟩ = some (.int .u8 (Int.tmod a0_0 2)) ∧ w'.cell? ⟨gb534, 1, none⟩ = some (.int .u32 a0_1) ∧ w'.cell? ⟨gb534, 2, none⟩ = some (.int .u32 a0_2) ∧ w'.cell? ⟨gb534, 3, none⟩ = some (.int .u16 a0_3) ∧ w'.cell? ⟨gb534, 4, none⟩ = some (.int .u16 a0_4) ∧ w'.cell? ⟨gb534, 5, none⟩ = some (.int .u8 a0_5) ∧ w'.cell? ⟨gb534, 6, none⟩ = some (.int .u8 a0_6) ∧ w'.cell? ⟨gb534, 7, none⟩ = some (.string a0_7) ∧ w'.cell? ⟨gb534, 8, none⟩ = some (.bool a0_8) ∧ w'.cell? ⟨gb534, 9, none⟩ = some (.int .u32 a0_9) ∧ w'.cell? ⟨gb534, 10, none⟩ = some (.int .u32 a0_10)) (ds := []) (bm 14 0x0) (by kernel_rfl) rfl rfl ⟨(blk_cell BK534.out 0).trans rfl, (blk_cell BK534.out 1).trans rfl, (blk_cell BK534.out 2).trans rfl, (blk_cell BK534.out 3).trans rfl, (blk_cell BK534.out 4).trans rfl, (blk_cell BK534.out 5).trans rfl, (blk_cell BK534.out 6).trans rfl, (blk_cell BK534.out 7).trans rfl, (blk_cell BK534.out 8).trans rfl, (blk_cell BK534.out 9).trans rfl, (blk_cell BK534.out 10).trans rfl⟩ (fun hHeld => ?_); refine with_tabW weighbridgelaw09_PacketParts.tab9 weighbridgelaw09_PacketParts.bits9 (fun HT_ HW_ => ?_)
  generalize w26.drew = w27 at BK534 HB hHeld ⊢
  refine pure_ (i := 0) (N := some 40) (v := ?_) (a' := ?_) (bm 14 0x1) rfl rfl (any_of HT_.out (by kernel_rfl)) (fun _ _ _ h => h) (Or.inl ⟨by rfl, ?_⟩) ?_ ?_
  rotate_left
  ·intro w'
   go_simp
   with_reducible rfl
  rotate_left
  ·simp only [Act.put, zpA, zpO, zpS, i64_w, i32_w]
   rfl
  refine pure_ (i := 1) (N := some 41) (v := ?_) (a' := ?_) (bm 14 0x3) rfl rfl (any_of HT_.out (by kernel_rfl)) (fun _ _ _ h => h) (Or.inl ⟨by rfl, ?_⟩) ?_ ?_
  rotate_left
  ·intro w'
   go_simp
   with_reducible rfl
  rotate_left
  ·simp only [Act.put, zpA, zpO, zpS, i64_w, i32_w]
   rfl
  refine pure_ (i := 3) (N := some 43) (v := ?_) (a' := ?_) (bm 14 0xb) rfl rfl (any_of HT_.out (by kernel_rfl)) (fun _ _ _ h => h) (Or.inl ⟨by rfl, ?_⟩) ?_ ?_
  rotate_left
  ·intro w'
   go_simp
   with_reducible rfl
  rotate_left
  ·simp only [Act.put, zpA, zpO, zpS, i64_w, i32_w]
   rfl
  refine pure_ (i := 6) (N := some 46) (v := ?_) (a' := ?_) (bm 14 0x4b) rfl rfl (any_of HT_.out (by kernel_rfl)) (fun _ _ _ h => h) (Or.inl ⟨by rfl, ?_⟩) ?_ ?_
  rotate_left
  ·intro w'
   go_simp
   with_reducible rfl
  rotate_left
  ·simp only [Act.put, zpA, zpO, zpS, i64_w, i32_w]
   rfl
  refine pure_ (i := 7) (N := some 47) (v := ?_) (a' := ?_) (bm 14 0xcb) rfl rfl (any_of HT_.out (by kernel_rfl)) (fun _ _ _ h => h) (Or.inl ⟨by rfl, ?_⟩) ?_ ?_
  rotate_left
  ·intro w'
   go_simp
   with_reducible rfl
  rotate_left
  ·simp only [Act.put, zpA, zpO, zpS, i64_w, i32_w]
   rfl
  refine take_ (i := 2) (N := some 42) (v := ?_) (a' := ?_) (bm 14 0xcf) rfl rfl (take_ofW HT_.out HW_.out (by kernel_rfl)) (fun _ _ _ h => h) (Or.inl ⟨by rfl, ?_⟩) hHeld ?_ ?_
  rotate_left
  ·rintro w' ⟨s0, s1, s2, s3, s4, s5, s6, s7, s8, s9, s10⟩
   go_simp
   with_reducible rfl
  rotate_left
  ·simp only [Act.put, zpA, zpO, zpS, i64_w, i32_w]
   rfl
  refine take_ (i := 4) (N := some 44) (v := ?_) (a' := ?_) (bm 14 0xdf) rfl rfl (take_ofW HT_.out HW_.out (by kernel_rfl)) (fun _ _ _ h => h) (Or.inl ⟨by rfl, ?_⟩) hHeld ?_ ?_
  rotate_left
  ·rintro w' ⟨s0, s1, s2, s3, s4, s5, s6, s7, s8, s9, s10⟩
   go_simp
   with_reducible rfl
  rotate_left
  ·simp only [Act.put, zpA, zpO, zpS, i64_w, i32_w]
   rfl
  refine pure_ (i := 5) (N := some 45) (v := ?_) (a' := ?_) (bm 14 0xff) rfl rfl (any_of HT_.out (by kernel_rfl)) (fun _ _ _ h => h) (Or.inl ⟨by rfl, ?_⟩) ?_ ?_
  rotate_left
  ·intro w'
   go_simp
   with_reducible rfl
  rotate_left
  ·simp only [Act.put, zpA, zpO, zpS, i64_w, i32_w]
   rfl
  refine one_ (i := 8) (N := some 48) (bm 14 0x1ff) rfl rfl (one_of HT_.out (by kernel_rfl)) (by decide) (fun K hK => ?_)
  refine goes_ Try.func15 (by kernel_rfl) rfl #[.agg #[.int .i64 0, .int .i64 0, .int .i64 0, .int .i64 (wrap64 (1 + (wrap64 (Int.tmod a1 8191)))), .int .i64 5, .int .i64 6, .int .u32 a0_1, .int .u32 a0_2, .string (⟨#[]⟩ : ByteArray)], .string (t536.extract 20 t536.size)] (by rfl) rfl rfl (by (try simp only [List.map_toArray, List.map_cons, List.map_nil]); first | done | rfl | (simp only [Int.toNat_natCast]; first | done | rfl) | (rw [Int.toNat_natCast, ByteArray.extract_zero_size]; rfl) | (simp only [List.length_drop, List.length_take]; rfl)) ?_
  with_reducible refine (weighbridgeref04_Build.calls 0 0 0 (wrap64 (1 + (wrap64 (Int.tmod a1 8191)))) 5 6 a0_1 a0_2 (⟨#[]⟩ : ByteArray) (t536.extract 20 t536.size) t537 t538 _ A9.out).mono ?_
  rintro e w28 ⟨rfl, hb⟩
  refine ⟨_, rfl, ?_⟩
  have n0_ := Aside0.mk (blk_below (g := gb534) (o := .cells #[.int .u8 (Int.tmod a0_0 2), .int .u32 a0_1, .int .u32 a0_2, .int .u16 a0_3, .int .u16 a0_4, .int .u8 a0_5, .int .u8 a0_6, .string a0_7, .bool a0_8, .int .u32 a0_9, .int .u32 a0_10] 25 (0, 0)) (BD BK534) hb)
  have n1_ := Aside0.mk (below_step (BW HB) hb)
  clear BK534
  clear HB
  have BK534 := n0_
  have HB := n1_
  clear n0_ n1_
  (try clear hb)
  (try clear hb2)
  (try clear hk)
  (try clear hi)
  refine hK.out _ _ ⟨(blk_cell BK534.out 0).trans rfl, (blk_cell BK534.out 1).trans rfl, (blk_cell BK534.out 2).trans rfl, (blk_cell BK534.out 3).trans rfl, (blk_cell BK534.out 4).trans rfl, (blk_cell BK534.out 5).trans rfl, (blk_cell BK534.out 6).trans rfl, (blk_cell BK534.out 7).trans rfl, (blk_cell BK534.out 8).trans rfl, (blk_cell BK534.out 9).trans rfl, (blk_cell BK534.out 10).trans rfl⟩ (fun hHeld => ?_)
  clear hK K
  refine norm_ (a' := ?_) ?_ ?_
  rotate_left
  ·show Act.put _ (some 48) _ = _
   simp only [Act.put, zpA, zpO, zpS, i64_w, i32_w]
   rfl
  refine pure_ (i := 9) (N := some 39) (v := ?_) (a' := ?_) (bm 14 0x3ff) rfl rfl (any_of HT_.out (by kernel_rfl)) (fun _ _ _ h => h) (Or.inl ⟨by rfl, ?_⟩) ?_ ?_
  rotate_left
  ·intro w'
   go_simp
   with_reducible rfl
  rotate_left
  ·simp only [Act.put, zpA, zpO, zpS, i64_w, i32_w]
   rfl
  refine pure_ (i := 10) (N := some 49) (v := ?_) (a' := ?_) (bm 14 0x7ff) rfl rfl (any_of HT_.out (by kernel_rfl)) (fun _ _ _ h => h) (Or.inl ⟨by rfl, ?_⟩) ?_ ?_
  rotate_left
  ·intro w'
   go_simp
   with_reducible rfl
  rotate_left
  ·simp only [Act.put, zpA, zpO, zpS, i64_w, i32_w]
   rfl
  refine pure_ (i := 11) (N := some 50) (v := ?_) (a' := ?_) (bm 14 0xfff) rfl rfl (any_of HT_.out (by kernel_rfl)) (fun _ _ _ h => h) (Or.inl ⟨by rfl, ?_⟩) ?_ ?_
  rotate_left
  ·intro w'
   go_simp
   with_reducible rfl
  rotate_left
  ·simp only [Act.put, zpA, zpO, zpS, i64_w, i32_w]
   rfl
  refine pure_ (i := 12) (N := some 10) (v := ?_) (a' := ?_) (bm 14 0x1fff) rfl rfl (any_of HT_.out (by kernel_rfl)) (fun _ _ _ h => h) (Or.inl ⟨by rfl, ?_⟩) ?_ ?_
  rotate_left
  ·intro w'
   go_simp
   with_reducible rfl
  rotate_left
  ·simp only [Act.put, zpA, zpO, zpS, i64_w, i32_w]
   rfl
  refine pure_ (i := 13) (N := some 11) (v := ?_) (a' := ?_) (bm 14 0x3fff) rfl rfl (any_of HT_.out (by kernel_rfl)) (fun _ _ _ h => h) (Or.inl ⟨by rfl, ?_⟩) ?_ ?_
  rotate_left
  ·intro w'
   go_simp
   with_reducible rfl
  rotate_left
  ·simp only [Act.put, zpA, zpO, zpS, i64_w, i32_w]
   rfl
  refine done_ (done_of HT_.out (by kernel_rfl)) ?_
  try go_wp2
  have n0_ := Aside0.mk (blk_drew BK534.out)
  have n1_ := Aside0.mk (below_drew1 HB.out)
  clear BK534
  clear HB
  have BK534 := n0_
  have HB := n1_
  clear n0_ n1_
  refine start_ (n := 13) (S := fun w' => w'.cell? ⟨gb534, 0, none⟩ = some (.int .u8 (Int.tmod a0_0 2)) ∧ w'.cell? ⟨gb534, 1, none⟩ = some (.int .u32 a0_1) ∧ w'.cell? ⟨gb534, 2, none⟩ = some (.int .u32 a0_2) ∧ w'.cell? ⟨gb534, 3, none⟩ = some (.int .u16 a0_3) ∧ w'.cell? ⟨gb534, 4, none⟩ = some (.int .u16 a0_4) ∧ w'.cell? ⟨gb534, 5, none⟩ = some (.int .u8 a0_5) ∧ w'.cell? ⟨gb534, 6, none⟩ = some (.int .u8 a0_6) ∧ w'.cell? ⟨gb534, 7, none⟩ = some (.string a0_7) ∧ w'.cell? ⟨gb534, 8, none⟩ = some (.bool a0_8) ∧ w'.cell? ⟨gb534, 9, none⟩ = some (.int .u32 a0_9) ∧ w'.cell? ⟨gb534, 10, none⟩ = some (.int .u32 a0_10)) (ds := []) (bm 13 0x0) (by kernel_rfl) rfl rfl ⟨(blk_cell BK534.out 0).trans rfl, (blk_cell BK534.out 1).trans rfl, (blk_cell BK534.out 2).trans rfl, (blk_cell BK534.out 3).trans rfl, (blk_cell BK534.out 4).trans rfl, (blk_cell BK534.out 5).trans rfl, (blk_cell BK534.out 6).trans rfl, (blk_cell BK534.out 7).trans rfl, (blk_cell BK534.out 8).trans rfl, (blk_cell BK534.out 9).trans rfl, (blk_cell BK534.out 10).trans rfl⟩ (fun hHeld => ?_); refine with_tabW weighbridgelaw09_PacketParts.tab10 weighbridgelaw09_PacketParts.bits10 (fun HT_ HW_ => ?_)
  generalize w28.drew = w29 at BK534 HB hHeld ⊢
  refine pure_ (i := 0) (N := some 52) (v := ?_) (a' := ?_) (bm 13 0x1) rfl rfl (any_of HT_.out (by kernel_rfl)) (fun _ _ _ h => h) (Or.inl ⟨by rfl, ?_⟩) ?_ ?_
  rotate_left
  ·intro w'
   go_simp
   with_reducible rfl
  rotate_left
  ·simp only [Act.put, zpA, zpO, zpS, i64_w, i32_w]
   rfl
  refine pure_ (i := 2) (N := some 54) (v := ?_) (a' := ?_) (bm 13 0x5) rfl rfl (any_of HT_.out (by kernel_rfl)) (fun _ _ _ h => h) (Or.inl ⟨by rfl, ?_⟩) ?_ ?_
  rotate_left
  ·intro w'
   go_simp
   with_reducible rfl
  rotate_left
  ·simp only [Act.put, zpA, zpO, zpS, i64_w, i32_w]
   rfl
  refine pure_ (i := 5) (N := some 57) (v := ?_) (a' := ?_) (bm 13 0x25) rfl rfl (any_of HT_.out (by kernel_rfl)) (fun _ _ _ h => h) (Or.inl ⟨by rfl, ?_⟩) ?_ ?_
  rotate_left
  ·intro w'
   go_simp
   with_reducible rfl
  rotate_left
  ·simp only [Act.put, zpA, zpO, zpS, i64_w, i32_w]
   rfl
  refine pure_ (i := 6) (N := some 58) (v := ?_) (a' := ?_) (bm 13 0x65) rfl rfl (any_of HT_.out (by kernel_rfl)) (fun _ _ _ h => h) (Or.inl ⟨by rfl, ?_⟩) ?_ ?_
  rotate_left
  ·intro w'
   go_simp
   with_reducible rfl
  rotate_left
  ·simp only [Act.put, zpA, zpO, zpS, i64_w, i32_w]
   rfl
  refine take_ (i := 1) (N := some 53) (v := ?_) (a' := ?_) (bm 13 0x67) rfl rfl (take_ofW HT_.out HW_.out (by kernel_rfl)) (fun _ _ _ h => h) (Or.inl ⟨by rfl, ?_⟩) hHeld ?_ ?_
  rotate_left
  ·rintro w' ⟨s0, s1, s2, s3, s4, s5, s6, s7, s8, s9, s10⟩
   go_simp
   with_reducible rfl
  rotate_left
  ·simp only [Act.put, zpA, zpO, zpS, i64_w, i32_w]
   rfl
  refine take_ (i := 3) (N := some 55) (v := ?_) (a' := ?_) (bm 13 0x6f) rfl rfl (take_ofW HT_.out HW_.out (by kernel_rfl)) (fun _ _ _ h => h) (Or.inl ⟨by rfl, ?_⟩) hHeld ?_ ?_
  rotate_left
  ·rintro w' ⟨s0, s1, s2, s3, s4, s5, s6, s7, s8, s9, s10⟩
   go_simp
   with_reducible rfl
  rotate_left
  ·simp only [Act.put, zpA, zpO, zpS, i64_w, i32_w]
   rfl
  refine pure_ (i := 4) (N := some 56) (v := ?_) (a' := ?_) (bm 13 0x7f) rfl rfl (any_of HT_.out (by kernel_rfl)) (fun _ _ _ h => h) (Or.inl ⟨by rfl, ?_⟩) ?_ ?_
  rotate_left
  ·intro w'
   go_simp
   with_reducible rfl
  rotate_left
  ·simp only [Act.put, zpA, zpO, zpS, i64_w, i32_w]
   rfl
  refine one_ (i := 7) (N := some 59) (bm 13 0xff) rfl rfl (one_of HT_.out (by kernel_rfl)) (by decide) (fun K hK => ?_)
  refine goes_ Try.func15 (by kernel_rfl) rfl #[.agg #[.int .i64 0, .int .i64 0, .int .i64 1, .int .i64 0, .int .i64 5, .int .i64 6, .int .u32 a0_1, .int .u32 a0_2, .string (⟨#[]⟩ : ByteArray)], .string (t536.extract 20 t536.size)] (by rfl) rfl rfl (by (try simp only [List.map_toArray, List.map_cons, List.map_nil]); first | done | rfl | (simp only [Int.toNat_natCast]; first | done | rfl) | (rw [Int.toNat_natCast, ByteArray.extract_zero_size]; rfl) | (simp only [List.length_drop, List.length_take]; rfl)) ?_
  with_reducible refine (weighbridgeref04_Build.calls 0 0 1 0 5 6 a0_1 a0_2 (⟨#[]⟩ : ByteArray) (t536.extract 20 t536.size) t539 t540 _ A11.out).mono ?_
  rintro e w30 ⟨rfl, hb⟩
  refine ⟨_, rfl, ?_⟩
  have n0_ := Aside0.mk (blk_below (g := gb534) (o := .cells #[.int .u8 (Int.tmod a0_0 2), .int .u32 a0_1, .int .u32 a0_2, .int .u16 a0_3, .int .u16 a0_4, .int .u8 a0_5, .int .u8 a0_6, .string a0_7, .bool a0_8, .int .u32 a0_9, .int .u32 a0_10] 25 (0, 0)) (BD BK534) hb)
  have n1_ := Aside0.mk (below_step (BW HB) hb)
  clear BK534
  clear HB
  have BK534 := n0_
  have HB := n1_
  clear n0_ n1_
  (try clear hb)
  (try clear hb2)
  (try clear hk)
  (try clear hi)
  refine hK.out _ _ ⟨(blk_cell BK534.out 0).trans rfl, (blk_cell BK534.out 1).trans rfl, (blk_cell BK534.out 2).trans rfl, (blk_cell BK534.out 3).trans rfl, (blk_cell BK534.out 4).trans rfl, (blk_cell BK534.out 5).trans rfl, (blk_cell BK534.out 6).trans rfl, (blk_cell BK534.out 7).trans rfl, (blk_cell BK534.out 8).trans rfl, (blk_cell BK534.out 9).trans rfl, (blk_cell BK534.out 10).trans rfl⟩ (fun hHeld => ?_)
  clear hK K
  refine norm_ (a' := ?_) ?_ ?_
  rotate_left
  ·show Act.put _ (some 59) _ = _
   simp only [Act.put, zpA, zpO, zpS, i64_w, i32_w]
   rfl
  refine pure_ (i := 8) (N := some 51) (v := ?_) (a' := ?_) (bm 13 0x1ff) rfl rfl (any_of HT_.out (by kernel_rfl)) (fun _ _ _ h => h) (Or.inl ⟨by rfl, ?_⟩) ?_ ?_
  rotate_left
  ·intro w'
   go_simp
   with_reducible rfl
  rotate_left
  ·simp only [Act.put, zpA, zpO, zpS, i64_w, i32_w]
   rfl
  refine pure_ (i := 9) (N := some 60) (v := ?_) (a' := ?_) (bm 13 0x3ff) rfl rfl (any_of HT_.out (by kernel_rfl)) (fun _ _ _ h => h) (Or.inl ⟨by rfl, ?_⟩) ?_ ?_
  rotate_left
  ·intro w'
   go_simp
   with_reducible rfl
  rotate_left
  ·simp only [Act.put, zpA, zpO, zpS, i64_w, i32_w]
   rfl
  refine pure_ (i := 10) (N := some 61) (v := ?_) (a' := ?_) (bm 13 0x7ff) rfl rfl (any_of HT_.out (by kernel_rfl)) (fun _ _ _ h => h) (Or.inl ⟨by rfl, ?_⟩) ?_ ?_
  rotate_left
  ·intro w'
   go_simp
   with_reducible rfl
  rotate_left
  ·simp only [Act.put, zpA, zpO, zpS, i64_w, i32_w]
   rfl
  refine pure_ (i := 11) (N := some 12) (v := ?_) (a' := ?_) (bm 13 0xfff) rfl rfl (any_of HT_.out (by kernel_rfl)) (fun _ _ _ h => h) (Or.inl ⟨by rfl, ?_⟩) ?_ ?_
  rotate_left
  ·intro w'
   go_simp
   with_reducible rfl
  rotate_left
  ·simp only [Act.put, zpA, zpO, zpS, i64_w, i32_w]
   rfl
  refine pure_ (i := 12) (N := some 13) (v := ?_) (a' := ?_) (bm 13 0x1fff) rfl rfl (any_of HT_.out (by kernel_rfl)) (fun _ _ _ h => h) (Or.inl ⟨by rfl, ?_⟩) ?_ ?_
  rotate_left
  ·intro w'
   go_simp
   with_reducible rfl
  rotate_left
  ·simp only [Act.put, zpA, zpO, zpS, i64_w, i32_w]
   rfl
  refine done_ (done_of HT_.out (by kernel_rfl)) ?_
  try go_wp2
  have n0_ := Aside0.mk (blk_drew BK534.out)
  have n1_ := Aside0.mk (below_drew1 HB.out)
  clear BK534
  clear HB
  have BK534 := n0_
  have HB := n1_
  clear n0_ n1_
  refine start_ (n := 15) (S := fun w' => w'.cell? ⟨gb534, 0, none⟩ = some (.int .u8 (Int.tmod a0_0 2)) ∧ w'.cell? ⟨gb534, 1, none⟩ = some (.int .u32 a0_1) ∧ w'.cell? ⟨gb534, 2, none⟩ = some (.int .u32 a0_2) ∧ w'.cell? ⟨gb534, 3, none⟩ = some (.int .u16 a0_3) ∧ w'.cell? ⟨gb534, 4, none⟩ = some (.int .u16 a0_4) ∧ w'.cell? ⟨gb534, 5, none⟩ = some (.int .u8 a0_5) ∧ w'.cell? ⟨gb534, 6, none⟩ = some (.int .u8 a0_6) ∧ w'.cell? ⟨gb534, 7, none⟩ = some (.string a0_7) ∧ w'.cell? ⟨gb534, 8, none⟩ = some (.bool a0_8) ∧ w'.cell? ⟨gb534, 9, none⟩ = some (.int .u32 a0_9) ∧ w'.cell? ⟨gb534, 10, none⟩ = some (.int .u32 a0_10)) (ds := []) (bm 15 0x0) (by kernel_rfl) rfl rfl ⟨(blk_cell BK534.out 0).trans rfl, (blk_cell BK534.out 1).trans rfl, (blk_cell BK534.out 2).trans rfl, (blk_cell BK534.out 3).trans rfl, (blk_cell BK534.out 4).trans rfl, (blk_cell BK534.out 5).trans rfl, (blk_cell BK534.out 6).trans rfl, (blk_cell BK534.out 7).trans rfl, (blk_cell BK534.out 8).trans rfl, (blk_cell BK534.out 9).trans rfl, (blk_cell BK534.out 10).trans rfl⟩ (fun hHeld => ?_); refine with_tabW weighbridgelaw09_PacketParts.tab11 weighbridgelaw09_PacketParts.bits11 (fun HT_ HW_ => ?_)
  generalize w30.drew = w31 at BK534 HB hHeld ⊢
  refine pure_ (i := 0) (N := some 63) (v := ?_) (a' := ?_) (bm 15 0x1) rfl rfl (any_of HT_.out (by kernel_rfl)) (fun _ _ _ h => h) (Or.inl ⟨by rfl, ?_⟩) ?_ ?_
  rotate_left
  ·intro w'
   go_simp
   with_reducible rfl
  rotate_left
  ·simp only [Act.put, zpA, zpO, zpS, i64_w, i32_w]
   rfl
  refine pure_ (i := 1) (N := some 64) (v := ?_) (a' := ?_) (bm 15 0x3) rfl rfl (any_of HT_.out (by kernel_rfl)) (fun _ _ _ h => h) (Or.inl ⟨by rfl, ?_⟩) ?_ ?_
  rotate_left
  ·intro w'
   go_simp
   with_reducible rfl
  rotate_left
  ·simp only [Act.put, zpA, zpO, zpS, i64_w, i32_w]
   rfl
  refine pure_ (i := 2) (N := some 65) (v := ?_) (a' := ?_) (bm 15 0x7) rfl rfl (any_of HT_.out (by kernel_rfl)) (fun _ _ _ h => h) (Or.inl ⟨by rfl, ?_⟩) ?_ ?_
  rotate_left
  ·intro w'
   go_simp
   with_reducible rfl
  rotate_left
  ·simp only [Act.put, zpA, zpO, zpS, i64_w, i32_w]
   rfl
  refine pure_ (i := 4) (N := some 67) (v := ?_) (a' := ?_) (bm 15 0x17) rfl rfl (any_of HT_.out (by kernel_rfl)) (fun _ _ _ h => h) (Or.inl ⟨by rfl, ?_⟩) ?_ ?_
  rotate_left
  ·intro w'
   go_simp
   with_reducible rfl
  rotate_left
  ·simp only [Act.put, zpA, zpO, zpS, i64_w, i32_w]
   rfl
  refine pure_ (i := 7) (N := some 70) (v := ?_) (a' := ?_) (bm 15 0x97) rfl rfl (any_of HT_.out (by kernel_rfl)) (fun _ _ _ h => h) (Or.inl ⟨by rfl, ?_⟩) ?_ ?_
  rotate_left
  ·intro w'
   go_simp
   with_reducible rfl
  rotate_left
  ·simp only [Act.put, zpA, zpO, zpS, i64_w, i32_w]
   rfl
  refine pure_ (i := 8) (N := some 71) (v := ?_) (a' := ?_) (bm 15 0x197) rfl rfl (any_of HT_.out (by kernel_rfl)) (fun _ _ _ h => h) (Or.inl ⟨by rfl, ?_⟩) ?_ ?_
  rotate_left
  ·intro w'
   go_simp
   with_reducible rfl
  rotate_left
  ·simp only [Act.put, zpA, zpO, zpS, i64_w, i32_w]
   rfl
  refine take_ (i := 3) (N := some 66) (v := ?_) (a' := ?_) (bm 15 0x19f) rfl rfl (take_ofW HT_.out HW_.out (by kernel_rfl)) (fun _ _ _ h => h) (Or.inl ⟨by rfl, ?_⟩) hHeld ?_ ?_
  rotate_left
  ·rintro w' ⟨s0, s1, s2, s3, s4, s5, s6, s7, s8, s9, s10⟩
   go_simp
   with_reducible rfl
  rotate_left
  ·simp only [Act.put, zpA, zpO, zpS, i64_w, i32_w]
   rfl
  refine take_ (i := 5) (N := some 68) (v := ?_) (a' := ?_) (bm 15 0x1bf) rfl rfl (take_ofW HT_.out HW_.out (by kernel_rfl)) (fun _ _ _ h => h) (Or.inl ⟨by rfl, ?_⟩) hHeld ?_ ?_
  rotate_left
  ·rintro w' ⟨s0, s1, s2, s3, s4, s5, s6, s7, s8, s9, s10⟩
   go_simp
   with_reducible rfl
  rotate_left
  ·simp only [Act.put, zpA, zpO, zpS, i64_w, i32_w]
   rfl
  refine pure_ (i := 6) (N := some 69) (v := ?_) (a' := ?_) (bm 15 0x1ff) rfl rfl (any_of HT_.out (by kernel_rfl)) (fun _ _ _ h => h) (Or.inl ⟨by rfl, ?_⟩) ?_ ?_
  rotate_left
  ·intro w'
   go_simp
   with_reducible rfl
  rotate_left
  ·simp only [Act.put, zpA, zpO, zpS, i64_w, i32_w]
   rfl
  refine one_ (i := 9) (N := some 72) (bm 15 0x3ff) rfl rfl (one_of HT_.out (by kernel_rfl)) (by decide) (fun K hK => ?_)
  refine goes_ Try.func15 (by kernel_rfl) rfl #[.agg #[.int .i64 0, .int .i64 0, .int .i64 0, .int .i64 0, .int .i64 5, .int .i64 (wrap64 (a2)), .int .u32 a0_1, .int .u32 a0_2, .string (⟨#[]⟩ : ByteArray)], .string (t536.extract 20 t536.size)] (by rfl) rfl rfl (by (try simp only [List.map_toArray, List.map_cons, List.map_nil]); first | done | rfl | (simp only [Int.toNat_natCast]; first | done | rfl) | (rw [Int.toNat_natCast, ByteArray.extract_zero_size]; rfl) | (simp only [List.length_drop, List.length_take]; rfl)) ?_
  with_reducible refine (weighbridgeref04_Build.calls 0 0 0 0 5 (wrap64 (a2)) a0_1 a0_2 (⟨#[]⟩ : ByteArray) (t536.extract 20 t536.size) t541 t542 _ A13.out).mono ?_
  rintro e w32 ⟨rfl, hb⟩
  refine ⟨_, rfl, ?_⟩
  have n0_ := Aside0.mk (blk_below (g := gb534) (o := .cells #[.int .u8 (Int.tmod a0_0 2), .int .u32 a0_1, .int .u32 a0_2, .int .u16 a0_3, .int .u16 a0_4, .int .u8 a0_5, .int .u8 a0_6, .string a0_7, .bool a0_8, .int .u32 a0_9, .int .u32 a0_10] 25 (0, 0)) (BD BK534) hb)
  have n1_ := Aside0.mk (below_step (BW HB) hb)
  clear BK534
  clear HB
  have BK534 := n0_
  have HB := n1_
  clear n0_ n1_
  (try clear hb)
  (try clear hb2)
  (try clear hk)
  (try clear hi)
  refine hK.out _ _ ⟨(blk_cell BK534.out 0).trans rfl, (blk_cell BK534.out 1).trans rfl, (blk_cell BK534.out 2).trans rfl, (blk_cell BK534.out 3).trans rfl, (blk_cell BK534.out 4).trans rfl, (blk_cell BK534.out 5).trans rfl, (blk_cell BK534.out 6).trans rfl, (blk_cell BK534.out 7).trans rfl, (blk_cell BK534.out 8).trans rfl, (blk_cell BK534.out 9).trans rfl, (blk_cell BK534.out 10).trans rfl⟩ (fun hHeld => ?_)
  clear hK K
  refine norm_ (a' := ?_) ?_ ?_
  rotate_left
  ·show Act.put _ (some 72) _ = _
   simp only [Act.put, zpA, zpO, zpS, i64_w, i32_w]
   rfl
  refine pure_ (i := 10) (N := some 62) (v := ?_) (a' := ?_) (bm 15 0x7ff) rfl rfl (any_of HT_.out (by kernel_rfl)) (fun _ _ _ h => h) (Or.inl ⟨by rfl, ?_⟩) ?_ ?_
  rotate_left
  ·intro w'
   go_simp
   with_reducible rfl
  rotate_left
  ·simp only [Act.put, zpA, zpO, zpS, i64_w, i32_w]
   rfl
  refine pure_ (i := 11) (N := some 73) (v := ?_) (a' := ?_) (bm 15 0xfff) rfl rfl (any_of HT_.out (by kernel_rfl)) (fun _ _ _ h => h) (Or.inl ⟨by rfl, ?_⟩) ?_ ?_
  rotate_left
  ·intro w'
   go_simp
   with_reducible rfl
  rotate_left
  ·simp only [Act.put, zpA, zpO, zpS, i64_w, i32_w]
   rfl
  refine pure_ (i := 12) (N := some 74) (v := ?_) (a' := ?_) (bm 15 0x1fff) rfl rfl (any_of HT_.out (by kernel_rfl)) (fun _ _ _ h => h) (Or.inl ⟨by rfl, ?_⟩) ?_ ?_
  rotate_left
  ·intro w'
   go_simp
   with_reducible rfl
  rotate_left
  ·simp only [Act.put, zpA, zpO, zpS, i64_w, i32_w]
   rfl
  refine pure_ (i := 13) (N := some 14) (v := ?_) (a' := ?_) (bm 15 0x3fff) rfl rfl (any_of HT_.out (by kernel_rfl)) (fun _ _ _ h => h) (Or.inl ⟨by rfl, ?_⟩) ?_ ?_
  rotate_left
  ·intro w'
   go_simp
   with_reducible rfl
  rotate_left
  ·simp only [Act.put, zpA, zpO, zpS, i64_w, i32_w]
   rfl
  refine pure_ (i := 14) (N := some 15) (v := ?_) (a' := ?_) (bm 15 0x7fff) rfl rfl (any_of HT_.out (by kernel_rfl)) (fun _ _ _ h => h) (Or.inl ⟨by rfl, ?_⟩) ?_ ?_
  rotate_left
  ·intro w'
   go_simp
   with_reducible rfl
  rotate_left
  ·simp only [Act.put, zpA, zpO, zpS, i64_w, i32_w]
   rfl
  refine done_ (done_of HT_.out (by kernel_rfl)) ?_
  try go_wp2_with (first | ((with_reducible refine gate_callee (f := 12) rfl ?_); refine goesL_ (some 77) rfl rfl Try.func12 (by kernel_rfl) rfl #[.string t537] rfl AG ?_; (with_reducible refine (packet_Classify.calls t537 t543 t544 t545 t546 t547 t548 t549 t550 t551 t552 t553 t554 t555 t556 t557 _ A14.out).mono ?_); rintro e w33 ⟨rfl, hb⟩; (try clear A14); refine ⟨_, rfl, ?_⟩; have n0_ := Aside0.mk (blk_below (g := gb534) (o := .cells #[.int .u8 (Int.tmod a0_0 2), .int .u32 a0_1, .int .u32 a0_2, .int .u16 a0_3, .int .u16 a0_4, .int .u8 a0_5, .int .u8 a0_6, .string a0_7, .bool a0_8, .int .u32 a0_9, .int .u32 a0_10] 25 (0, 0)) (BD BK534) hb); have n1_ := Aside0.mk (below_step (BW HB) hb); clear BK534; clear HB; have BK534 := n0_; have HB := n1_; clear n0_ n1_; (try clear hb); (try clear hb2); (try clear hk); (try clear hi)) | ((with_reducible refine gate_dst (N := 16) rfl ?_); refine box_event ?hg (N := 16) ?hd (cs := #[.int .i64 0, .int .i64 0, .int .i64 0, .int .i64 0, .int .u32 0, .int .u32 0, .int .i64 0, .int .i64 0, .int .i64 0, .int .i64 0, .int .u32 0, .int .u32 0, .int .i64 0, .int .i64 0]) (t := 32) ?hr ?_; (case hd => rfl); (case hg => rfl); (case hr => first | (go_simp; done) | (go_simp; rfl)); intro gb558 hg w34 hbox hb; have n0_ := Aside0.mk (blk_below (g := gb534) (o := .cells #[.int .u8 (Int.tmod a0_0 2), .int .u32 a0_1, .int .u32 a0_2, .int .u16 a0_3, .int .u16 a0_4, .int .u8 a0_5, .int .u8 a0_6, .string a0_7, .bool a0_8, .int .u32 a0_9, .int .u32 a0_10] 25 (0, 0)) (BD BK534) hb); have n1_ := Aside0.mk (below_step (BW HB) hb); have n2_ := Aside0.mk (hbox); have n3_ := Aside0.mk ((by rw [hg]; exact (below_size (BW HB)) : w.heap.size ≤ gb558)); have n4_ := Aside0.mk ((by rw [hg]; exact (below_size (BW HB)) : w.heap.size ≤ gb558)); have n5_ := Aside0.mk ((by rw [hg]; exact Nat.ne_of_lt (blk_lt (g := gb534) (o := .cells #[.int .u8 (Int.tmod a0_0 2), .int .u32 a0_1, .int .u32 a0_2, .int .u16 a0_3, .int .u16 a0_4, .int .u8 a0_5, .int .u8 a0_6, .string a0_7, .bool a0_8, .int .u32 a0_9, .int .u32 a0_10] 25 (0, 0)) (BD BK534)) : gb534 ≠ gb558)); have n6_ := Aside0.mk ((by rw [hg]; exact Nat.ne_of_gt (blk_lt (g := gb534) (o := .cells #[.int .u8 (Int.tmod a0_0 2), .int .u32 a0_1, .int .u32 a0_2, .int .u16 a0_3, .int .u16 a0_4, .int .u8 a0_5, .int .u8 a0_6, .string a0_7, .bool a0_8, .int .u32 a0_9, .int .u32 a0_10] 25 (0, 0)) (BD BK534)) : gb558 ≠ gb534)); clear BK534; clear HB; have BK534 := n0_; have HB := n1_; have BK558 := n2_; have GW558 := n3_; have GE558 := n4_; have NB534_558 := n5_; have NB558_534 := n6_; clear n0_ n1_ n2_ n3_ n4_ n5_ n6_; clear hb hbox hg; have hnb35 := NB558_534.out; have hnc35 := NB534_558.out; obtain ⟨hcz36_0, hcz36_1, hcz36_2, hcz36_3, hcz36_4, hcz36_5, hcz36_6, hcz36_7, hcz36_8, hcz36_9, hcz36_10, hcz36_11, hcz36_12, hcz36_13, hfz36_0, hfz36_1, hfz36_2, hfz36_3, hfz36_4, hfz36_5, hfz36_6, hfz36_7, hfz36_8, hfz36_9, hfz36_10, hfz36_11, hfz36_12, hfz36_13⟩ := blk14 BK558.out) | ((with_reducible refine gate_callee (f := 12) rfl ?_); refine goesL_ (some 82) rfl rfl Try.func12 (by kernel_rfl) rfl #[.string t539] rfl AG ?_; (with_reducible refine (packet_Classify.calls t539 t559 t560 t561 t562 t563 t564 t565 t566 t567 t568 t569 t570 t571 t572 t573 _ A15.out).mono ?_); rintro e w37 ⟨rfl, hb⟩; (try clear A15); refine ⟨_, rfl, ?_⟩; have n0_ := Aside0.mk (blk_below (g := gb534) (o := .cells #[.int .u8 (Int.tmod a0_0 2), .int .u32 a0_1, .int .u32 a0_2, .int .u16 a0_3, .int .u16 a0_4, .int .u8 a0_5, .int .u8 a0_6, .string a0_7, .bool a0_8, .int .u32 a0_9, .int .u32 a0_10] 25 (0, 0)) (BE BK534) hb); have n1_ := Aside0.mk (blk_below (g := gb558) (o := .cells #[.int .i64 t543, .int .i64 t544, .int .i64 t545, .int .i64 t546, .int .u32 t547, .int .u32 t548, .int .i64 t549, .int .i64 t550, .int .i64 t551, .int .i64 t552, .int .u32 t553, .int .u32 t554, .int .i64 t555, .int .i64 t556] 32 (0, 0)) (BE BK558) hb); have n2_ := Aside0.mk (below_step (BW HB) hb); clear BK534; clear BK558; clear HB; have BK534 := n0_; have BK558 := n1_; have HB := n2_; clear n0_ n1_ n2_; (try clear hb); (try clear hb2); (try clear hk); (try clear hi)) | ((with_reducible refine gate_dst (N := 18) rfl ?_); refine box_event ?hg (N := 18) ?hd (cs := #[.int .i64 0, .int .i64 0, .int .i64 0, .int .i64 0, .int .u32 0, .int .u32 0, .int .i64 0, .int .i64 0, .int .i64 0, .int .i64 0, .int .u32 0, .int .u32 0, .int .i64 0, .int .i64 0]) (t := 32) ?hr ?_; (case hd => rfl); (case hg => rfl); (case hr => first | (go_simp; done) | (go_simp; rfl)); intro gb574 hg w38 hbox hb; have n0_ := Aside0.mk (blk_below (g := gb534) (o := .cells #[.int .u8 (Int.tmod a0_0 2), .int .u32 a0_1, .int .u32 a0_2, .int .u16 a0_3, .int .u16 a0_4, .int .u8 a0_5, .int .u8 a0_6, .string a0_7, .bool a0_8, .int .u32 a0_9, .int .u32 a0_10] 25 (0, 0)) (BD BK534) hb); have n1_ := Aside0.mk (blk_below (g := gb558) (o := .cells #[.int .i64 t543, .int .i64 t544, .int .i64 t545, .int .i64 t546, .int .u32 t547, .int .u32 t548, .int .i64 t549, .int .i64 t550, .int .i64 t551, .int .i64 t552, .int .u32 t553, .int .u32 t554, .int .i64 t555, .int .i64 t556] 32 (0, 0)) (BD BK558) hb); have n2_ := Aside0.mk (below_step (BW HB) hb); have n3_ := Aside0.mk (hbox); have n4_ := Aside0.mk ((by rw [hg]; exact (below_size (BW HB)) : w.heap.size ≤ gb574)); have n5_ := Aside0.mk ((by rw [hg]; exact (below_size (BW HB)) : w.heap.size ≤ gb574)); have n6_ := Aside0.mk ((by rw [hg]; exact Nat.ne_of_lt (blk_lt (g := gb534) (o := .cells #[.int .u8 (Int.tmod a0_0 2), .int .u32 a0_1, .int .u32 a0_2, .int .u16 a0_3, .int .u16 a0_4, .int .u8 a0_5, .int .u8 a0_6, .string a0_7, .bool a0_8, .int .u32 a0_9, .int .u32 a0_10] 25 (0, 0)) (BD BK534)) : gb534 ≠ gb574)); have n7_ := Aside0.mk ((by rw [hg]; exact Nat.ne_of_gt (blk_lt (g := gb534) (o := .cells #[.int .u8 (Int.tmod a0_0 2), .int .u32 a0_1, .int .u32 a0_2, .int .u16 a0_3, .int .u16 a0_4, .int .u8 a0_5, .int .u8 a0_6, .string a0_7, .bool a0_8, .int .u32 a0_9, .int .u32 a0_10] 25 (0, 0)) (BD BK534)) : gb574 ≠ gb534)); have n8_ := Aside0.mk ((by rw [hg]; exact Nat.ne_of_lt (blk_lt (g := gb558) (o := .cells #[.int .i64 t543, .int .i64 t544, .int .i64 t545, .int .i64 t546, .int .u32 t547, .int .u32 t548, .int .i64 t549, .int .i64 t550, .int .i64 t551, .int .i64 t552, .int .u32 t553, .int .u32 t554, .int .i64 t555, .int .i64 t556] 32 (0, 0)) (BD BK558)) : gb558 ≠ gb574)); have n9_ := Aside0.mk ((by rw [hg]; exact Nat.ne_of_gt (blk_lt (g := gb558) (o := .cells #[.int .i64 t543, .int .i64 t544, .int .i64 t545, .int .i64 t546, .int .u32 t547, .int .u32 t548, .int .i64 t549, .int .i64 t550, .int .i64 t551, .int .i64 t552, .int .u32 t553, .int .u32 t554, .int .i64 t555, .int .i64 t556] 32 (0, 0)) (BD BK558)) : gb574 ≠ gb558)); clear BK534; clear BK558; clear HB; have BK534 := n0_; have BK558 := n1_; have HB := n2_; have BK574 := n3_; have GW574 := n4_; have GE574 := n5_; have NB534_574 := n6_; have NB574_534 := n7_; have NB558_574 := n8_; have NB574_558 := n9_; clear n0_ n1_ n2_ n3_ n4_ n5_ n6_ n7_ n8_ n9_; clear hb hbox hg; have hnb39 := NB574_534.out; have hnc39 := NB534_574.out; have hnb40 := NB574_558.out; have hnc40 := NB558_574.out; obtain ⟨hcz41_0, hcz41_1, hcz41_2, hcz41_3, hcz41_4, hcz41_5, hcz41_6, hcz41_7, hcz41_8, hcz41_9, hcz41_10, hcz41_11, hcz41_12, hcz41_13, hfz41_0, hfz41_1, hfz41_2, hfz41_3, hfz41_4, hfz41_5, hfz41_6, hfz41_7, hfz41_8, hfz41_9, hfz41_10, hfz41_11, hfz41_12, hfz41_13⟩ := blk14 BK574.out) | ((with_reducible refine gate_callee (f := 12) rfl ?_); refine goesL_ (some 87) rfl rfl Try.func12 (by kernel_rfl) rfl #[.string t541] rfl AG ?_; (with_reducible refine (packet_Classify.calls t541 t575 t576 t577 t578 t579 t580 t581 t582 t583 t584 t585 t586 t587 t588 t589 _ A16.out).mono ?_); rintro e w42 ⟨rfl, hb⟩; (try clear A16); refine ⟨_, rfl, ?_⟩; have n0_ := Aside0.mk (blk_below (g := gb534) (o := .cells #[.int .u8 (Int.tmod a0_0 2), .int .u32 a0_1, .int .u32 a0_2, .int .u16 a0_3, .int .u16 a0_4, .int .u8 a0_5, .int .u8 a0_6, .string a0_7, .bool a0_8, .int .u32 a0_9, .int .u32 a0_10] 25 (0, 0)) (BE BK534) hb); have n1_ := Aside0.mk (blk_below (g := gb558) (o := .cells #[.int .i64 t543, .int .i64 t544, .int .i64 t545, .int .i64 t546, .int .u32 t547, .int .u32 t548, .int .i64 t549, .int .i64 t550, .int .i64 t551, .int .i64 t552, .int .u32 t553, .int .u32 t554, .int .i64 t555, .int .i64 t556] 32 (0, 0)) (BE BK558) hb); have n2_ := Aside0.mk (blk_below (g := gb574) (o := .cells #[.int .i64 t559, .int .i64 t560, .int .i64 t561, .int .i64 t562, .int .u32 t563, .int .u32 t564, .int .i64 t565, .int .i64 t566, .int .i64 t567, .int .i64 t568, .int .u32 t569, .int .u32 t570, .int .i64 t571, .int .i64 t572] 32 (0, 0)) (BE BK574) hb); have n3_ := Aside0.mk (below_step (BW HB) hb); clear BK534; clear BK558; clear BK574; clear HB; have BK534 := n0_; have BK558 := n1_; have BK574 := n2_; have HB := n3_; clear n0_ n1_ n2_ n3_; (try clear hb); (try clear hb2); (try clear hk); (try clear hi)) | ((with_reducible refine gate_dst (N := 20) rfl ?_); refine box_event ?hg (N := 20) ?hd (cs := #[.int .i64 0, .int .i64 0, .int .i64 0, .int .i64 0, .int .u32 0, .int .u32 0, .int .i64 0, .int .i64 0, .int .i64 0, .int .i64 0, .int .u32 0, .int .u32 0, .int .i64 0, .int .i64 0]) (t := 32) ?hr ?_; (case hd => rfl); (case hg => rfl); (case hr => first | (go_simp; done) | (go_simp; rfl)); intro gb590 hg w43 hbox hb; have n0_ := Aside0.mk (blk_below (g := gb534) (o := .cells #[.int .u8 (Int.tmod a0_0 2), .int .u32 a0_1, .int .u32 a0_2, .int .u16 a0_3, .int .u16 a0_4, .int .u8 a0_5, .int .u8 a0_6, .string a0_7, .bool a0_8, .int .u32 a0_9, .int .u32 a0_10] 25 (0, 0)) (BD BK534) hb); have n1_ := Aside0.mk (blk_below (g := gb558) (o := .cells #[.int .i64 t543, .int .i64 t544, .int .i64 t545, .int .i64 t546, .int .u32 t547, .int .u32 t548, .int .i64 t549, .int .i64 t550, .int .i64 t551, .int .i64 t552, .int .u32 t553, .int .u32 t554, .int .i64 t555, .int .i64 t556] 32 (0, 0)) (BD BK558) hb); have n2_ := Aside0.mk (blk_below (g := gb574) (o := .cells #[.int .i64 t559, .int .i64 t560, .int .i64 t561, .int .i64 t562, .int .u32 t563, .int .u32 t564, .int .i64 t565, .int .i64 t566, .int .i64 t567, .int .i64 t568, .int .u32 t569, .int .u32 t570, .int .i64 t571, .int .i64 t572] 32 (0, 0)) (BD BK574) hb); have n3_ := Aside0.mk (below_step (BW HB) hb); have n4_ := Aside0.mk (hbox); have n5_ := Aside0.mk ((by rw [hg]; exact (below_size (BW HB)) : w.heap.size ≤ gb590)); have n6_ := Aside0.mk ((by rw [hg]; exact (below_size (BW HB)) : w.heap.size ≤ gb590)); have n7_ := Aside0.mk ((by rw [hg]; exact Nat.ne_of_lt (blk_lt (g := gb534) (o := .cells #[.int .u8 (Int.tmod a0_0 2), .int .u32 a0_1, .int .u32 a0_2, .int .u16 a0_3, .int .u16 a0_4, .int .u8 a0_5, .int .u8 a0_6, .string a0_7, .bool a0_8, .int .u32 a0_9, .int .u32 a0_10] 25 (0, 0)) (BD BK534)) : gb534 ≠ gb590)); have n8_ := Aside0.mk ((by rw [hg]; exact Nat.ne_of_gt (blk_lt (g := gb534) (o := .cells #[.int .u8 (Int.tmod a0_0 2), .int .u32 a0_1, .int .u32 a0_2, .int .u16 a0_3, .int .u16 a0_4, .int .u8 a0_5, .int .u8 a0_6, .string a0_7, .bool a0_8, .int .u32 a0_9, .int .u32 a0_10] 25 (0, 0)) (BD BK534)) : gb590 ≠ gb534)); have n9_ := Aside0.mk ((by rw [hg]; exact Nat.ne_of_lt (blk_lt (g := gb558) (o := .cells #[.int .i64 t543, .int .i64 t544, .int .i64 t545, .int .i64 t546, .int .u32 t547, .int .u32 t548, .int .i64 t549, .int .i64 t550, .int .i64 t551, .int .i64 t552, .int .u32 t553, .int .u32 t554, .int .i64 t555, .int .i64 t556] 32 (0, 0)) (BD BK558)) : gb558 ≠ gb590)); have n10_ := Aside0.mk ((by rw [hg]; exact Nat.ne_of_gt (blk_lt (g := gb558) (o := .cells #[.int .i64 t543, .int .i64 t544, .int .i64 t545, .int .i64 t546, .int .u32 t547, .int .u32 t548, .int .i64 t549, .int .i64 t550, .int .i64 t551, .int .i64 t552, .int .u32 t553, .int .u32 t554, .int .i64 t555, .int .i64 t556] 32 (0, 0)) (BD BK558)) : gb590 ≠ gb558)); have n11_ := Aside0.mk ((by rw [hg]; exact Nat.ne_of_lt (blk_lt (g := gb574) (o := .cells #[.int .i64 t559, .int .i64 t560, .int .i64 t561, .int .i64 t562, .int .u32 t563, .int .u32 t564, .int .i64 t565, .int .i64 t566, .int .i64 t567, .int .i64 t568, .int .u32 t569, .int .u32 t570, .int .i64 t571, .int .i64 t572] 32 (0, 0)) (BD BK574)) : gb574 ≠ gb590)); have n12_ := Aside0.mk ((by rw [hg]; exact Nat.ne_of_gt (blk_lt (g := gb574) (o := .cells #[.int .i64 t559, .int .i64 t560, .int .i64 t561, .int .i64 t562, .int .u32 t563, .int .u32 t564, .int .i64 t565, .int .i64 t566, .int .i64 t567, .int .i64 t568, .int .u32 t569, .int .u32 t570, .int .i64 t571, .int .i64 t572] 32 (0, 0)) (BD BK574)) : gb590 ≠ gb574)); clear BK534; clear BK558; clear BK574; clear HB; have BK534 := n0_; have BK558 := n1_; have BK574 := n2_; have HB := n3_; have BK590 := n4_; have GW590 := n5_; have GE590 := n6_; have NB534_590 := n7_; have NB590_534 := n8_; have NB558_590 := n9_; have NB590_558 := n10_; have NB574_590 := n11_; have NB590_574 := n12_; clear n0_ n1_ n2_ n3_ n4_ n5_ n6_ n7_ n8_ n9_ n10_ n11_ n12_; clear hb hbox hg; have hnb44 := NB590_534.out; have hnc44 := NB534_590.out; have hnb45 := NB590_558.out; have hnc45 := NB558_590.out; have hnb46 := NB590_574.out; have hnc46 := NB574_590.out; obtain ⟨hcz47_0, hcz47_1, hcz47_2, hcz47_3, hcz47_4, hcz47_5, hcz47_6, hcz47_7, hcz47_8, hcz47_9, hcz47_10, hcz47_11, hcz47_12, hcz47_13, hfz47_0, hfz47_1, hfz47_2, hfz47_3, hfz47_4, hfz47_5, hfz47_6, hfz47_7, hfz47_8, hfz47_9, hfz47_10, hfz47_11, hfz47_12, hfz47_13⟩ := blk14 BK590.out))
  go_ret
  exact ⟨RT, BW HB⟩
 rw [if_neg c17] at H
 have c17b0 : (a2 == 1) = false := beq_eq_false_iff_ne.mpr c17
 have c17b1 : (a2 != 1) = true := bne_iff_ne.mpr c17
 by_cases c48 : a2 = 6
 ·rw [if_pos c48] at H
  have c48b0 : (a2 == 6) = true := beq_iff_eq.mpr c48
  have c48b1 : (a2 != 6) = false := bne_eq_false_iff_eq.mpr c48
  clear c48
  by_cases c49 : t538 = 0
  rotate_left
  ·rw [if_neg c49] at H
   have c49b0 : (t538 == 0) = false := beq_eq_false_iff_ne.mpr c49
   have c49b1 : (t538 != 0) = true := bne_iff_ne.mpr c49
   exact absurd ((Option.some.inj H).trans hr_) (by decide)
  rw [if_pos c49] at H
  have c49b0 : (t538 == 0) = true := beq_iff_eq.mpr c49
  have c49b1 : (t538 != 0) = false := bne_eq_false_iff_eq.mpr c49
  clear c49
  by_cases c50 : t540 = 0
  rotate_left
  ·rw [if_neg c50] at H
   have c50b0 : (t540 == 0) = false := beq_eq_false_iff_ne.mpr c50
   have c50b1 : (t540 != 0) = true := bne_iff_ne.mpr c50
   exact absurd ((Option.some.inj H).trans hr_) (by decide)
  rw [if_pos c50] at H
  have c50b0 : (t540 == 0) = true := beq_iff_eq.mpr c50
  have c50b1 : (t540 != 0) = false := bne_eq_false_iff_eq.mpr c50
  clear c50
  by_cases c51 : t542 = 0
  rotate_left
  ·rw [if_neg c51] at H
   have c51b0 : (t542 == 0) = false := beq_eq_false_iff_ne.mpr c51
   have c51b1 : (t542 != 0) = true := bne_iff_ne.mpr c51
   exact absurd ((Option.some.inj H).trans hr_) (by decide)
  rw [if_pos c51] at H
  have c51b0 : (t542 == 0) = true := beq_iff_eq.mpr c51
  have c51b1 : (t542 != 0) = false := bne_eq_false_iff_eq.mpr c51
  clear c51
  by_cases c52 : t557 = 8
  rotate_left
  ·rw [if_neg c52] at H
   have c52b0 : (t557 == 8) = false := beq_eq_false_iff_ne.mpr c52
   have c52b1 : (t557 != 8) = true := bne_iff_ne.mpr c52
   exact absurd ((Option.some.inj H).trans hr_) (by decide)
  rw [if_pos c52] at H
  have c52b0 : (t557 == 8) = true := beq_iff_eq.mpr c52
  have c52b1 : (t557 != 8) = false := bne_eq_false_iff_eq.mpr c52
  clear c52
  by_cases c53 : t573 = 8
  rotate_left
  ·rw [if_neg c53] at H
   have c53b0 : (t573 == 8) = false := beq_eq_false_iff_ne.mpr c53
   have c53b1 : (t573 != 8) = true := bne_iff_ne.mpr c53
   exact absurd ((Option.some.inj H).trans hr_) (by decide)
  rw [if_pos c53] at H
  have c53b0 : (t573 == 8) = true := beq_iff_eq.mpr c53
  have c53b1 : (t573 != 8) = false := bne_eq_false_iff_eq.mpr c53
  clear c53
  obtain rfl := Option.some.inj H
  go_enter Try.func5, Try.ntmps5
  try go_wp2_with (first | ((with_reducible refine gate_dst (N := 3) rfl ?_); refine box_event ?hg (N := 3) ?hd (cs := #[.int .u8 a0_0, .int .u32 a0_1, .int .u32 a0_2, .int .u16 a0_3, .int .u16 a0_4, .int .u8 a0_5, .int .u8 a0_6, .string a0_7, .bool a0_8, .int .u32 a0_9, .int .u32 a0_10]) (t := 25) ?hr ?_; (case hd => rfl); (case hg => rfl); (case hr => first | (go_simp; done) | (go_simp; rfl)); intro gb534 hg w54 hbox hb; have n0_ := Aside0.mk (below_step (BW HB) hb); have n1_ := Aside0.mk (hbox); have n2_ := Aside0.mk ((by rw [hg]; exact (below_size (BW HB)) : w.heap.size ≤ gb534)); have n3_ := Aside0.mk ((by rw [hg]; exact (below_size (BW HB)) : w.heap.size ≤ gb534)); clear HB; have HB := n0_; have BK534 := n1_; have GW534 := n2_; have GE534 := n3_; clear n0_ n1_ n2_ n3_; clear hb hbox hg) | ((with_reducible refine gate_callee (f := 9) rfl ?_); refine goesL_ (some 23) rfl rfl Try.func9 (by kernel_rfl) rfl #[] rfl AG ?_; (with_reducible refine (weighbridgelaw09_examples.calls  true _ A4.out).mono ?_); rintro e w55 ⟨rfl, hb⟩; (try clear A4); refine ⟨_, rfl, ?_⟩; have n0_ := Aside0.mk (blk_below (g := gb534) (o := .cells #[.int .u8 a0_0, .int .u32 a0_1, .int .u32 a0_2, .int .u16 a0_3, .int .u16 a0_4, .int .u8 a0_5, .int .u8 a0_6, .string a0_7, .bool a0_8, .int .u32 a0_9, .int .u32 a0_10] 25 (0, 0)) (BD BK534) hb); have n1_ := Aside0.mk (below_step (BW HB) hb); clear BK534; clear HB; have BK534 := n0_; have HB := n1_; clear n0_ n1_; (try clear hb); (try clear hb2); (try clear hk); (try clear hi); obtain ⟨hcz56_0, hcz56_1, hcz56_2, hcz56_3, hcz56_4, hcz56_5, hcz56_6, hcz56_7, hcz56_8, hcz56_9, hcz56_10, hfz56_0, hfz56_1, hfz56_2, hfz56_3, hfz56_4, hfz56_5, hfz56_6, hfz56_7, hfz56_8, hfz56_9, hfz56_10⟩ := blk11 BK534.out) | ((with_reducible refine gate_callee (f := 11) rfl ?_); refine goesL_ (some 31) rfl rfl Try.func11 (by kernel_rfl) rfl #[.agg #[.int .u8 (Int.tmod a0_0 2), .int .u32 a0_1, .int .u32 a0_2, .int .u16 a0_3, .int .u16 a0_4, .int .u8 a0_5, .int .u8 a0_6, .string a0_7, .bool a0_8, .int .u32 a0_9, .int .u32 a0_10]] rfl AG ?_; (with_reducible refine (weighbridgelaw09_Make_frame.calls (Int.tmod a0_0 2) a0_1 a0_2 a0_3 a0_4 a0_5 a0_6 a0_7 a0_8 a0_9 a0_10 t536 _ A6.out).mono ?_); rintro e w57 ⟨rfl, hb⟩; (try clear A6); refine ⟨_, rfl, ?_⟩; have n0_ := Aside0.mk (blk_below (g := gb534) (o := .cells #[.int .u8 (Int.tmod a0_0 2), .int .u32 a0_1, .int .u32 a0_2, .int .u16 a0_3, .int .u16 a0_4, .int .u8 a0_5, .int .u8 a0_6, .string a0_7, .bool a0_8, .int .u32 a0_9, .int .u32 a0_10] 25 (0, 0)) (BE BK534) hb); have n1_ := Aside0.mk (below_step (BW HB) hb); clear BK534; clear HB; have BK534 := n0_; have HB := n1_; clear n0_ n1_; (try clear hb); (try clear hb2); (try clear hk); (try clear hi)))
  have n0_ := Aside0.mk (blk_drew BK534.out)
  have n1_ := Aside0.mk (below_drew1 HB.out)
  clear BK534
  clear HB
  have BK534 := n0_
  have HB := n1_
  clear n0_ n1_
  refine start_ (n := 14) (S := fun w' => w'.cell? ⟨gb534, 0, none⟩ = some (.int .u8 (Int.tmod a0_0 2)) ∧ w'.cell? ⟨gb534, 1, none⟩ = some (.int .u32 a0_1) ∧ w'.cell? ⟨gb534, 2, none⟩ = some (.int .u32 a0_2) ∧ w'.cell? ⟨gb534, 3, none⟩ = some (.int .u16 a0_3) ∧ w'.cell? ⟨gb534, 4, none⟩ = some (.int .u16 a0_4) ∧ w'.cell? ⟨gb534, 5, none⟩ = some (.int .u8 a0_5) ∧ w'.cell? ⟨gb534, 6, none⟩ = some (.int .u8 a0_6) ∧ w'.cell? ⟨gb534, 7, none⟩ = some (.string a0_7) ∧ w'.cell? ⟨gb534, 8, none⟩ = some (.bool a0_8) ∧ w'.cell? ⟨gb534, 9, none⟩ = some (.int .u32 a0_9) ∧ w'.cell? ⟨gb534, 10, none⟩ = some (.int .u32 a0_10)) (ds := []) (bm 14 0x0) (by kernel_rfl) rfl rfl ⟨(blk_cell BK534.out 0).trans rfl, (blk_cell BK534.out 1).trans rfl, (blk_cell BK534.out 2).trans rfl, (blk_cell BK534.out 3).trans rfl, (blk_cell BK534.out 4).trans rfl, (blk_cell BK534.out 5).trans rfl, (blk_cell BK534.out 6).trans rfl, (blk_cell BK534.out 7).trans rfl, (blk_cell BK534.out 8).trans rfl, (blk_cell BK534.out 9).trans rfl, (blk_cell BK534.out 10).trans rfl⟩ (fun hHeld => ?_); refine with_tabW weighbridgelaw09_PacketParts.tab9 weighbridgelaw09_PacketParts.bits9 (fun HT_ HW_ => ?_)
  generalize w57.drew = w58 at BK534 HB hHeld ⊢
  refine pure_ (i := 0) (N := some 40) (v := ?_) (a' := ?_) (bm 14 0x1) rfl rfl (any_of HT_.out (by kernel_rfl)) (fun _ _ _ h => h) (Or.inl ⟨by rfl, ?_⟩) ?_ ?_
  rotate_left
  ·intro w'
   go_simp
   with_reducible rfl
  rotate_left
  ·simp only [Act.put, zpA, zpO, zpS, i64_w, i32_w]
   rfl
  refine pure_ (i := 1) (N := some 41) (v := ?_) (a' := ?_) (bm 14 0x3) rfl rfl (any_of HT_.out (by kernel_rfl)) (fun _ _ _ h => h) (Or.inl ⟨by rfl, ?_⟩) ?_ ?_
  rotate_left
  ·intro w'
   go_simp
   with_reducible rfl
  rotate_left
  ·simp only [Act.put, zpA, zpO, zpS, i64_w, i32_w]
   rfl
  refine pure_ (i := 3) (N := some 43) (v := ?_) (a' := ?_) (bm 14 0xb) rfl rfl (any_of HT_.out (by kernel_rfl)) (fun _ _ _ h => h) (Or.inl ⟨by rfl, ?_⟩) ?_ ?_
  rotate_left
  ·intro w'
   go_simp
   with_reducible rfl
  rotate_left
  ·simp only [Act.put, zpA, zpO, zpS, i64_w, i32_w]
   rfl
  refine pure_ (i := 6) (N := some 46) (v := ?_) (a' := ?_) (bm 14 0x4b) rfl rfl (any_of HT_.out (by kernel_rfl)) (fun _ _ _ h => h) (Or.inl ⟨by rfl, ?_⟩) ?_ ?_
  rotate_left
  ·intro w'
   go_simp
   with_reducible rfl
  rotate_left
  ·simp only [Act.put, zpA, zpO, zpS, i64_w, i32_w]
   rfl
  refine pure_ (i := 7) (N := some 47) (v := ?_) (a' := ?_) (bm 14 0xcb) rfl rfl (any_of HT_.out (by kernel_rfl)) (fun _ _ _ h => h) (Or.inl ⟨by rfl, ?_⟩) ?_ ?_
  rotate_left
  ·intro w'
   go_simp
   with_reducible rfl
  rotate_left
  ·simp only [Act.put, zpA, zpO, zpS, i64_w, i32_w]
   rfl
  refine take_ (i := 2) (N := some 42) (v := ?_) (a' := ?_) (bm 14 0xcf) rfl rfl (take_ofW HT_.out HW_.out (by kernel_rfl)) (fun _ _ _ h => h) (Or.inl ⟨by rfl, ?_⟩) hHeld ?_ ?_
  rotate_left
  ·rintro w' ⟨s0, s1, s2, s3, s4, s5, s6, s7, s8, s9, s10⟩
   go_simp
   with_reducible rfl
  rotate_left
  ·simp only [Act.put, zpA, zpO, zpS, i64_w, i32_w]
   rfl
  refine take_ (i := 4) (N := some 44) (v := ?_) (a' := ?_) (bm 14 0xdf) rfl rfl (take_ofW HT_.out HW_.out (by kernel_rfl)) (fun _ _ _ h => h) (Or.inl ⟨by rfl, ?_⟩) hHeld ?_ ?_
  rotate_left
  ·rintro w' ⟨s0, s1, s2, s3, s4, s5, s6, s7, s8, s9, s10⟩
   go_simp
   with_reducible rfl
  rotate_left
  ·simp only [Act.put, zpA, zpO, zpS, i64_w, i32_w]
   rfl
  refine pure_ (i := 5) (N := some 45) (v := ?_) (a' := ?_) (bm 14 0xff) rfl rfl (any_of HT_.out (by kernel_rfl)) (fun _ _ _ h => h) (Or.inl ⟨by rfl, ?_⟩) ?_ ?_
  rotate_left
  ·intro w'
   go_simp
   with_reducible rfl
  rotate_left
  ·simp only [Act.put, zpA, zpO, zpS, i64_w, i32_w]
   rfl
  refine one_ (i := 8) (N := some 48) (bm 14 0x1ff) rfl rfl (one_of HT_.out (by kernel_rfl)) (by decide) (fun K hK => ?_)
  refine goes_ Try.func15 (by kernel_rfl) rfl #[.agg #[.int .i64 0, .int .i64 0, .int .i64 0, .int .i64 (wrap64 (1 + (wrap64 (Int.tmod a1 8191)))), .int .i64 5, .int .i64 6, .int .u32 a0_1, .int .u32 a0_2, .string (⟨#[]⟩ : ByteArray)], .string (t536.extract 20 t536.size)] (by rfl) rfl rfl (by (try simp only [List.map_toArray, List.map_cons, List.map_nil]); first | done | rfl | (simp only [Int.toNat_natCast]; first | done | rfl) | (rw [Int.toNat_natCast, ByteArray.extract_zero_size]; rfl) | (simp only [List.length_drop, List.length_take]; rfl)) ?_
  with_reducible refine (weighbridgeref04_Build.calls 0 0 0 (wrap64 (1 + (wrap64 (Int.tmod a1 8191)))) 5 6 a0_1 a0_2 (⟨#[]⟩ : ByteArray) (t536.extract 20 t536.size) t537 t538 _ A9.out).mono ?_
  rintro e w59 ⟨rfl, hb⟩
  refine ⟨_, rfl, ?_⟩
  have n0_ := Aside0.mk (blk_below (g := gb534) (o := .cells #[.int .u8 (Int.tmod a0_0 2), .int .u32 a0_1, .int .u32 a0_2, .int .u16 a0_3, .int .u16 a0_4, .int .u8 a0_5, .int .u8 a0_6, .string a0_7, .bool a0_8, .int .u32 a0_9, .int .u32 a0_10] 25 (0, 0)) (BD BK534) hb)
  have n1_ := Aside0.mk (below_step (BW HB) hb)
  clear BK534
  clear HB
  have BK534 := n0_
  have HB := n1_
  clear n0_ n1_
  (try clear hb)
  (try clear hb2)
  (try clear hk)
  (try clear hi)
  refine hK.out _ _ ⟨(blk_cell BK534.out 0).trans rfl, (blk_cell BK534.out 1).trans rfl, (blk_cell BK534.out 2).trans rfl, (blk_cell BK534.out 3).trans rfl, (blk_cell BK534.out 4).trans rfl, (blk_cell BK534.out 5).trans rfl, (blk_cell BK534.out 6).trans rfl, (blk_cell BK534.out 7).trans rfl, (blk_cell BK534.out 8).trans rfl, (blk_cell BK534.out 9).trans rfl, (blk_cell BK534.out 10).trans rfl⟩ (fun hHeld => ?_)
  clear hK K
  refine norm_ (a' := ?_) ?_ ?_
  rotate_left
  ·show Act.put _ (some 48) _ = _
   simp only [Act.put, zpA, zpO, zpS, i64_w, i32_w]
   rfl
  refine pure_ (i := 9) (N := some 39) (v := ?_) (a' := ?_) (bm 14 0x3ff) rfl rfl (any_of HT_.out (by kernel_rfl)) (fun _ _ _ h => h) (Or.inl ⟨by rfl, ?_⟩) ?_ ?_
  rotate_left
  ·intro w'
   go_simp
   with_reducible rfl
  rotate_left
  ·simp only [Act.put, zpA, zpO, zpS, i64_w, i32_w]
   rfl
  refine pure_ (i := 10) (N := some 49) (v := ?_) (a' := ?_) (bm 14 0x7ff) rfl rfl (any_of HT_.out (by kernel_rfl)) (fun _ _ _ h => h) (Or.inl ⟨by rfl, ?_⟩) ?_ ?_
  rotate_left
  ·intro w'
   go_simp
   with_reducible rfl
  rotate_left
  ·simp only [Act.put, zpA, zpO, zpS, i64_w, i32_w]
   rfl
  refine pure_ (i := 11) (N := some 50) (v := ?_) (a' := ?_) (bm 14 0xfff) rfl rfl (any_of HT_.out (by kernel_rfl)) (fun _ _ _ h => h) (Or.inl ⟨by rfl, ?_⟩) ?_ ?_
  rotate_left
  ·intro w'
   go_simp
   with_reducible rfl
  rotate_left
  ·simp only [Act.put, zpA, zpO, zpS, i64_w, i32_w]
   rfl
  refine pure_ (i := 12) (N := some 10) (v := ?_) (a' := ?_) (bm 14 0x1fff) rfl rfl (any_of HT_.out (by kernel_rfl)) (fun _ _ _ h => h) (Or.inl ⟨by rfl, ?_⟩) ?_ ?_
  rotate_left
  ·intro w'
   go_simp
   with_reducible rfl
  rotate_left
  ·simp only [Act.put, zpA, zpO, zpS, i64_w, i32_w]
   rfl
  refine pure_ (i := 13) (N := some 11) (v := ?_) (a' := ?_) (bm 14 0x3fff) rfl rfl (any_of HT_.out (by kernel_rfl)) (fun _ _ _ h => h) (Or.inl ⟨by rfl, ?_⟩) ?_ ?_
  rotate_left
  ·intro w'
   go_simp
   with_reducible rfl
  rotate_left
  ·simp only [Act.put, zpA, zpO, zpS, i64_w, i32_w]
   rfl
  refine done_ (done_of HT_.out (by kernel_rfl)) ?_
  try go_wp2
  have n0_ := Aside0.mk (blk_drew BK534.out)
  have n1_ := Aside0.mk (below_drew1 HB.out)
  clear BK534
  clear HB
  have BK534 := n0_
  have HB := n1_
  clear n0_ n1_
  refine start_ (n := 13) (S := fun w' => w'.cell? ⟨gb534, 0, none⟩ = some (.int .u8 (Int.tmod a0_0 2)) ∧ w'.cell? ⟨gb534, 1, none⟩ = some (.int .u32 a0_1) ∧ w'.cell? ⟨gb534, 2, none⟩ = some (.int .u32 a0_2) ∧ w'.cell? ⟨gb534, 3, none⟩ = some (.int .u16 a0_3) ∧ w'.cell? ⟨gb534, 4, none⟩ = some (.int .u16 a0_4) ∧ w'.cell? ⟨gb534, 5, none⟩ = some (.int .u8 a0_5) ∧ w'.cell? ⟨gb534, 6, none⟩ = some (.int .u8 a0_6) ∧ w'.cell? ⟨gb534, 7, none⟩ = some (.string a0_7) ∧ w'.cell? ⟨gb534, 8, none⟩ = some (.bool a0_8) ∧ w'.cell? ⟨gb534, 9, none⟩ = some (.int .u32 a0_9) ∧ w'.cell? ⟨gb534, 10, none⟩ = some (.int .u32 a0_10)) (ds := []) (bm 13 0x0) (by kernel_rfl) rfl rfl ⟨(blk_cell BK534.out 0).trans rfl, (blk_cell BK534.out 1).trans rfl, (blk_cell BK534.out 2).trans rfl, (blk_cell BK534.out 3).trans rfl, (blk_cell BK534.out 4).trans rfl, (blk_cell BK534.out 5).trans rfl, (blk_cell BK534.out 6).trans rfl, (blk_cell BK534.out 7).trans rfl, (blk_cell BK534.out 8).trans rfl, (blk_cell BK534.out 9).trans rfl, (blk_cell BK534.out 10).trans rfl⟩ (fun hHeld => ?_); refine with_tabW weighbridgelaw09_PacketParts.tab10 weighbridgelaw09_PacketParts.bits10 (fun HT_ HW_ => ?_)
  generalize w59.drew = w60 at BK534 HB hHeld ⊢
  refine pure_ (i := 0) (N := some 52) (v := ?_) (a' := ?_) (bm 13 0x1) rfl rfl (any_of HT_.out (by kernel_rfl)) (fun _ _ _ h => h) (Or.inl ⟨by rfl, ?_⟩) ?_ ?_
  rotate_left
  ·intro w'
   go_simp
   with_reducible rfl
  rotate_left
  ·simp only [Act.put, zpA, zpO, zpS, i64_w, i32_w]
   rfl
  refine pure_ (i := 2) (N := some 54) (v := ?_) (a' := ?_) (bm 13 0x5) rfl rfl (any_of HT_.out (by kernel_rfl)) (fun _ _ _ h => h) (Or.inl ⟨by rfl, ?_⟩) ?_ ?_
  rotate_left
  ·intro w'
   go_simp
   with_reducible rfl
  rotate_left
  ·simp only [Act.put, zpA, zpO, zpS, i64_w, i32_w]
   rfl
  refine pure_ (i := 5) (N := some 57) (v := ?_) (a' := ?_) (bm 13 0x25) rfl rfl (any_of HT_.out (by kernel_rfl)) (fun _ _ _ h => h) (Or.inl ⟨by rfl, ?_⟩) ?_ ?_
  rotate_left
  ·intro w'
   go_simp
   with_reducible rfl
  rotate_left
  ·simp only [Act.put, zpA, zpO, zpS, i64_w, i32_w]
   rfl
  refine pure_ (i := 6) (N := some 58) (v := ?_) (a' := ?_) (bm 13 0x65) rfl rfl (any_of HT_.out (by kernel_rfl)) (fun _ _ _ h => h) (Or.inl ⟨by rfl, ?_⟩) ?_ ?_
  rotate_left
  ·intro w'
   go_simp
   with_reducible rfl
  rotate_left
  ·simp only [Act.put, zpA, zpO, zpS, i64_w, i32_w]
   rfl
  refine take_ (i := 1) (N := some 53) (v := ?_) (a' := ?_) (bm 13 0x67) rfl rfl (take_ofW HT_.out HW_.out (by kernel_rfl)) (fun _ _ _ h => h) (Or.inl ⟨by rfl, ?_⟩) hHeld ?_ ?_
  rotate_left
  ·rintro w' ⟨s0, s1, s2, s3, s4, s5, s6, s7, s8, s9, s10⟩
   go_simp
   with_reducible rfl
  rotate_left
  ·simp only [Act.put, zpA, zpO, zpS, i64_w, i32_w]
   rfl
  refine take_ (i := 3) (N := some 55) (v := ?_) (a' := ?_) (bm 13 0x6f) rfl rfl (take_ofW HT_.out HW_.out (by kernel_rfl)) (fun _ _ _ h => h) (Or.inl ⟨by rfl, ?_⟩) hHeld ?_ ?_
  rotate_left
  ·rintro w' ⟨s0, s1, s2, s3, s4, s5, s6, s7, s8, s9, s10⟩
   go_simp
   with_reducible rfl
  rotate_left
  ·simp only [Act.put, zpA, zpO, zpS, i64_w, i32_w]
   rfl
  refine pure_ (i := 4) (N := some 56) (v := ?_) (a' := ?_) (bm 13 0x7f) rfl rfl (any_of HT_.out (by kernel_rfl)) (fun _ _ _ h => h) (Or.inl ⟨by rfl, ?_⟩) ?_ ?_
  rotate_left
  ·intro w'
   go_simp
   with_reducible rfl
  rotate_left
  ·simp only [Act.put, zpA, zpO, zpS, i64_w, i32_w]
   rfl
  refine one_ (i := 7) (N := some 59) (bm 13 0xff) rfl rfl (one_of HT_.out (by kernel_rfl)) (by decide) (fun K hK => ?_)
  refine goes_ Try.func15 (by kernel_rfl) rfl #[.agg #[.int .i64 0, .int .i64 0, .int .i64 1, .int .i64 0, .int .i64 5, .int .i64 6, .int .u32 a0_1, .int .u32 a0_2, .string (⟨#[]⟩ : ByteArray)], .string (t536.extract 20 t536.size)] (by rfl) rfl rfl (by (try simp only [List.map_toArray, List.map_cons, List.map_nil]); first | done | rfl | (simp only [Int.toNat_natCast]; first | done | rfl) | (rw [Int.toNat_natCast, ByteArray.extract_zero_size]; rfl) | (simp only [List.length_drop, List.length_take]; rfl)) ?_
  with_reducible refine (weighbridgeref04_Build.calls 0 0 1 0 5 6 a0_1 a0_2 (⟨#[]⟩ : ByteArray) (t536.extract 20 t536.size) t539 t540 _ A11.out).mono ?_
  rintro e w61 ⟨rfl, hb⟩
  refine ⟨_, rfl, ?_⟩
  have n0_ := Aside0.mk (blk_below (g := gb534) (o := .cells #[.int .u8 (Int.tmod a0_0 2), .int .u32 a0_1, .int .u32 a0_2, .int .u16 a0_3, .int .u16 a0_4, .int .u8 a0_5, .int .u8 a0_6, .string a0_7, .bool a0_8, .int .u32 a0_9, .int .u32 a0_10] 25 (0, 0)) (BD BK534) hb)
  have n1_ := Aside0.mk (below_step (BW HB) hb)
  clear BK534
  clear HB
  have BK534 := n0_
  have HB := n1_
  clear n0_ n1_
  (try clear hb)
  (try clear hb2)
  (try clear hk)
  (try clear hi)
  refine hK.out _ _ ⟨(blk_cell BK534.out 0).trans rfl, (blk_cell BK534.out 1).trans rfl, (blk_cell BK534.out 2).trans rfl, (blk_cell BK534.out 3).trans rfl, (blk_cell BK534.out 4).trans rfl, (blk_cell BK534.out 5).trans rfl, (blk_cell BK534.out 6).trans rfl, (blk_cell BK534.out 7).trans rfl, (blk_cell BK534.out 8).trans rfl, (blk_cell BK534.out 9).trans rfl, (blk_cell BK534.out 10).trans rfl⟩ (fun hHeld => ?_)
  clear hK K
  refine norm_ (a' := ?_) ?_ ?_
  rotate_left
  ·show Act.put _ (some 59) _ = _
   simp only [Act.put, zpA, zpO, zpS, i64_w, i32_w]
   rfl
  refine pure_ (i := 8) (N := some 51) (v := ?_) (a' := ?_) (bm 13 0x1ff) rfl rfl (any_of HT_.out (by kernel_rfl)) (fun _ _ _ h => h) (Or.inl ⟨by rfl, ?_⟩) ?_ ?_
  rotate_left
  ·intro w'
   go_simp
   with_reducible rfl
  rotate_left
  ·simp only [Act.put, zpA, zpO, zpS, i64_w, i32_w]
   rfl
  refine pure_ (i := 9) (N := some 60) (v := ?_) (a' := ?_) (bm 13 0x3ff) rfl rfl (any_of HT_.out (by kernel_rfl)) (fun _ _ _ h => h) (Or.inl ⟨by rfl, ?_⟩) ?_ ?_
  rotate_left
  ·intro w'
   go_simp
   with_reducible rfl
  rotate_left
  ·simp only [Act.put, zpA, zpO, zpS, i64_w, i32_w]
   rfl
  refine pure_ (i := 10) (N := some 61) (v := ?_) (a' := ?_) (bm 13 0x7ff) rfl rfl (any_of HT_.out (by kernel_rfl)) (fun _ _ _ h => h) (Or.inl ⟨by rfl, ?_⟩) ?_ ?_
  rotate_left
  ·intro w'
   go_simp
   with_reducible rfl
  rotate_left
  ·simp only [Act.put, zpA, zpO, zpS, i64_w, i32_w]
   rfl
  refine pure_ (i := 11) (N := some 12) (v := ?_) (a' := ?_) (bm 13 0xfff) rfl rfl (any_of HT_.out (by kernel_rfl)) (fun _ _ _ h => h) (Or.inl ⟨by rfl, ?_⟩) ?_ ?_
  rotate_left
  ·intro w'
   go_simp
   with_reducible rfl
  rotate_left
  ·simp only [Act.put, zpA, zpO, zpS, i64_w, i32_w]
   rfl
  refine pure_ (i := 12) (N := some 13) (v := ?_) (a' := ?_) (bm 13 0x1fff) rfl rfl (any_of HT_.out (by kernel_rfl)) (fun _ _ _ h => h) (Or.inl ⟨by rfl, ?_⟩) ?_ ?_
  rotate_left
  ·intro w'
   go_simp
   with_reducible rfl
  rotate_left
  ·simp only [Act.put, zpA, zpO, zpS, i64_w, i32_w]
   rfl
  refine done_ (done_of HT_.out (by kernel_rfl)) ?_
  try go_wp2
  have n0_ := Aside0.mk (blk_drew BK534.out)
  have n1_ := Aside0.mk (below_drew1 HB.out)
  clear BK534
  clear HB
  have BK534 := n0_
  have HB := n1_
  clear n0_ n1_
  refine start_ (n := 15) (S := fun w' => w'.cell? ⟨gb534, 0, none⟩ = some (.int .u8 (Int.tmod a0_0 2)) ∧ w'.cell? ⟨gb534, 1, none⟩ = some (.int .u32 a0_1) ∧ w'.cell? ⟨gb534, 2, none⟩ = some (.int .u32 a0_2) ∧ w'.cell? ⟨gb534, 3, none⟩ = some (.int .u16 a0_3) ∧ w'.cell? ⟨gb534, 4, none⟩ = some (.int .u16 a0_4) ∧ w'.cell? ⟨gb534, 5, none⟩ = some (.int .u8 a0_5) ∧ w'.cell? ⟨gb534, 6, none⟩ = some (.int .u8 a0_6) ∧ w'.cell? ⟨gb534, 7, none⟩ = some (.string a0_7) ∧ w'.cell? ⟨gb534, 8, none⟩ = some (.bool a0_8) ∧ w'.cell? ⟨gb534, 9, none⟩ = some (.int .u32 a0_9) ∧ w'.cell? ⟨gb534, 10, none⟩ = some (.int .u32 a0_10)) (ds := []) (bm 15 0x0) (by kernel_rfl) rfl rfl ⟨(blk_cell BK534.out 0).trans rfl, (blk_cell BK534.out 1).trans rfl, (blk_cell BK534.out 2).trans rfl, (blk_cell BK534.out 3).trans rfl, (blk_cell BK534.out 4).trans rfl, (blk_cell BK534.out 5).trans rfl, (blk_cell BK534.out 6).trans rfl, (blk_cell BK534.out 7).trans rfl, (blk_cell BK534.out 8).trans rfl, (blk_cell BK534.out 9).trans rfl, (blk_cell BK534.out 10).trans rfl⟩ (fun hHeld => ?_); refine with_tabW weighbridgelaw09_PacketParts.tab11 weighbridgelaw09_PacketParts.bits11 (fun HT_ HW_ => ?_)
  generalize w61.drew = w62 at BK534 HB hHeld ⊢
  refine pure_ (i := 0) (N := some 63) (v := ?_) (a' := ?_) (bm 15 0x1) rfl rfl (any_of HT_.out (by kernel_rfl)) (fun _ _ _ h => h) (Or.inl ⟨by rfl, ?_⟩) ?_ ?_
  rotate_left
  ·intro w'
   go_simp
   with_reducible rfl
  rotate_left
  ·simp only [Act.put, zpA, zpO, zpS, i64_w, i32_w]
   rfl
  refine pure_ (i := 1) (N := some 64) (v := ?_) (a' := ?_) (bm 15 0x3) rfl rfl (any_of HT_.out (by kernel_rfl)) (fun _ _ _ h => h) (Or.inl ⟨by rfl, ?_⟩) ?_ ?_
  rotate_left
  ·intro w'
   go_simp
   with_reducible rfl
  rotate_left
  ·simp only [Act.put, zpA, zpO, zpS, i64_w, i32_w]
   rfl
  refine pure_ (i := 2) (N := some 65) (v := ?_) (a' := ?_) (bm 15 0x7) rfl rfl (any_of HT_.out (by kernel_rfl)) (fun _ _ _ h => h) (Or.inl ⟨by rfl, ?_⟩) ?_ ?_
  rotate_left
  ·intro w'
   go_simp
   with_reducible rfl
  rotate_left
  ·simp only [Act.put, zpA, zpO, zpS, i64_w, i32_w]
   rfl
  refine pure_ (i := 4) (N := some 67) (v := ?_) (a' := ?_) (bm 15 0x17) rfl rfl (any_of HT_.out (by kernel_rfl)) (fun _ _ _ h => h) (Or.inl ⟨by rfl, ?_⟩) ?_ ?_
  rotate_left
  ·intro w'
   go_simp
   with_reducible rfl
  rotate_left
  ·simp only [Act.put, zpA, zpO, zpS, i64_w, i32_w]
   rfl
  refine pure_ (i := 7) (N := some 70) (v := ?_) (a' := ?_) (bm 15 0x97) rfl rfl (any_of HT_.out (by kernel_rfl)) (fun _ _ _ h => h) (Or.inl ⟨by rfl, ?_⟩) ?_ ?_
  rotate_left
  ·intro w'
   go_simp
   with_reducible rfl
  rotate_left
  ·simp only [Act.put, zpA, zpO, zpS, i64_w, i32_w]
   rfl
  refine pure_ (i := 8) (N := some 71) (v := ?_) (a' := ?_) (bm 15 0x197) rfl rfl (any_of HT_.out (by kernel_rfl)) (fun _ _ _ h => h) (Or.inl ⟨by rfl, ?_⟩) ?_ ?_
  rotate_left
  ·intro w'
   go_simp
   with_reducible rfl
  rotate_left
  ·simp only [Act.put, zpA, zpO, zpS, i64_w, i32_w]
   rfl
  refine take_ (i := 3) (N := some 66) (v := ?_) (a' := ?_) (bm 15 0x19f) rfl rfl (take_ofW HT_.out HW_.out (by kernel_rfl)) (fun _ _ _ h => h) (Or.inl ⟨by rfl, ?_⟩) hHeld ?_ ?_
  rotate_left
  ·rintro w' ⟨s0, s1, s2, s3, s4, s5, s6, s7, s8, s9, s10⟩
   go_simp
   with_reducible rfl
  rotate_left
  ·simp only [Act.put, zpA, zpO, zpS, i64_w, i32_w]
   rfl
  refine take_ (i := 5) (N := some 68) (v := ?_) (a' := ?_) (bm 15 0x1bf) rfl rfl (take_ofW HT_.out HW_.out (by kernel_rfl)) (fun _ _ _ h => h) (Or.inl ⟨by rfl, ?_⟩) hHeld ?_ ?_
  rotate_left
  ·rintro w' ⟨s0, s1, s2, s3, s4, s5, s6, s7, s8, s9, s10⟩
   go_simp
   with_reducible rfl
  rotate_left
  ·simp only [Act.put, zpA, zpO, zpS, i64_w, i32_w]
   rfl
  refine pure_ (i := 6) (N := some 69) (v := ?_) (a' := ?_) (bm 15 0x1ff) rfl rfl (any_of HT_.out (by kernel_rfl)) (fun _ _ _ h => h) (Or.inl ⟨by rfl, ?_⟩) ?_ ?_
  rotate_left
  ·intro w'
   go_simp
   with_reducible rfl
  rotate_left
  ·simp only [Act.put, zpA, zpO, zpS, i64_w, i32_w]
   rfl
  refine one_ (i := 9) (N := some 72) (bm 15 0x3ff) rfl rfl (one_of HT_.out (by kernel_rfl)) (by decide) (fun K hK => ?_)
  refine goes_ Try.func15 (by kernel_rfl) rfl #[.agg #[.int .i64 0, .int .i64 0, .int .i64 0, .int .i64 0, .int .i64 5, .int .i64 (wrap64 (a2)), .int .u32 a0_1, .int .u32 a0_2, .string (⟨#[]⟩ : ByteArray)], .string (t536.extract 20 t536.size)] (by rfl) rfl rfl (by (try simp only [List.map_toArray, List.map_cons, List.map_nil]); first | done | rfl | (simp only [Int.toNat_natCast]; first | done | rfl) | (rw [Int.toNat_natCast, ByteArray.extract_zero_size]; rfl) | (simp only [List.length_drop, List.length_take]; rfl)) ?_
  with_reducible refine (weighbridgeref04_Build.calls 0 0 0 0 5 (wrap64 (a2)) a0_1 a0_2 (⟨#[]⟩ : ByteArray) (t536.extract 20 t536.size) t541 t542 _ A13.out).mono ?_
  rintro e w63 ⟨rfl, hb⟩
  refine ⟨_, rfl, ?_⟩
  have n0_ := Aside0.mk (blk_below (g := gb534) (o := .cells #[.int .u8 (Int.tmod a0_0 2), .int .u32 a0_1, .int .u32 a0_2, .int .u16 a0_3, .int .u16 a0_4, .int .u8 a0_5, .int .u8 a0_6, .string a0_7, .bool a0_8, .int .u32 a0_9, .int .u32 a0_10] 25 (0, 0)) (BD BK534) hb)
  have n1_ := Aside0.mk (below_step (BW HB) hb)
  clear BK534
  clear HB
  have BK534 := n0_
  have HB := n1_
  clear n0_ n1_
  (try clear hb)
  (try clear hb2)
  (try clear hk)
  (try clear hi)
  refine hK.out _ _ ⟨(blk_cell BK534.out 0).trans rfl, (blk_cell BK534.out 1).trans rfl, (blk_cell BK534.out 2).trans rfl, (blk_cell BK534.out 3).trans rfl, (blk_cell BK534.out 4).trans rfl, (blk_cell BK534.out 5).trans rfl, (blk_cell BK534.out 6).trans rfl, (blk_cell BK534.out 7).trans rfl, (blk_cell BK534.out 8).trans rfl, (blk_cell BK534.out 9).trans rfl, (blk_cell BK534.out 10).trans rfl⟩ (fun hHeld => ?_)
  clear hK K
  refine norm_ (a' := ?_) ?_ ?_
  rotate_left
  ·show Act.put _ (some 72) _ = _
   simp only [Act.put, zpA, zpO, zpS, i64_w, i32_w]
   rfl
  refine pure_ (i := 10) (N := some 62) (v := ?_) (a' := ?_) (bm 15 0x7ff) rfl rfl (any_of HT_.out (by kernel_rfl)) (fun _ _ _ h => h) (Or.inl ⟨by rfl, ?_⟩) ?_ ?_
  rotate_left
  ·intro w'
   go_simp
   with_reducible rfl
  rotate_left
  ·simp only [Act.put, zpA, zpO, zpS, i64_w, i32_w]
   rfl
  refine pure_ (i := 11) (N := some 73) (v := ?_) (a' := ?_) (bm 15 0xfff) rfl rfl (any_of HT_.out (by kernel_rfl)) (fun _ _ _ h => h) (Or.inl ⟨by rfl, ?_⟩) ?_ ?_
  rotate_left
  ·intro w'
   go_simp
   with_reducible rfl
  rotate_left
  ·simp only [Act.put, zpA, zpO, zpS, i64_w, i32_w]
   rfl
  refine pure_ (i := 12) (N := some 74) (v := ?_) (a' := ?_) (bm 15 0x1fff) rfl rfl (any_of HT_.out (by kernel_rfl)) (fun _ _ _ h => h) (Or.inl ⟨by rfl, ?_⟩) ?_ ?_
  rotate_left
  ·intro w'
   go_simp
   with_reducible rfl
  rotate_left
  ·simp only [Act.put, zpA, zpO, zpS, i64_w, i32_w]
   rfl
  refine pure_ (i := 13) (N := some 14) (v := ?_) (a' := ?_) (bm 15 0x3fff) rfl rfl (any_of HT_.out (by kernel_rfl)) (fun _ _ _ h => h) (Or.inl ⟨by rfl, ?_⟩) ?_ ?_
  rotate_left
  ·intro w'
   go_simp
   with_reducible rfl
  rotate_left
  ·simp only [Act.put, zpA, zpO, zpS, i64_w, i32_w]
   rfl
  refine pure_ (i := 14) (N := some 15) (v := ?_) (a' := ?_) (bm 15 0x7fff) rfl rfl (any_of HT_.out (by kernel_rfl)) (fun _ _ _ h => h) (Or.inl ⟨by rfl, ?_⟩) ?_ ?_
  rotate_left
  ·intro w'
   go_simp
   with_reducible rfl
  rotate_left
  ·simp only [Act.put, zpA, zpO, zpS, i64_w, i32_w]
   rfl
  refine done_ (done_of HT_.out (by kernel_rfl)) ?_
  try go_wp2_with (first | ((with_reducible refine gate_callee (f := 12) rfl ?_); refine goesL_ (some 77) rfl rfl Try.func12 (by kernel_rfl) rfl #[.string t537] rfl AG ?_; (with_reducible refine (packet_Classify.calls t537 t543 t544 t545 t546 t547 t548 t549 t550 t551 t552 t553 t554 t555 t556 t557 _ A14.out).mono ?_); rintro e w64 ⟨rfl, hb⟩; (try clear A14); refine ⟨_, rfl, ?_⟩; have n0_ := Aside0.mk (blk_below (g := gb534) (o := .cells #[.int .u8 (Int.tmod a0_0 2), .int .u32 a0_1, .int .u32 a0_2, .int .u16 a0_3, .int .u16 a0_4, .int .u8 a0_5, .int .u8 a0_6, .string a0_7, .bool a0_8, .int .u32 a0_9, .int .u32 a0_10] 25 (0, 0)) (BD BK534) hb); have n1_ := Aside0.mk (below_step (BW HB) hb); clear BK534; clear HB; have BK534 := n0_; have HB := n1_; clear n0_ n1_; (try clear hb); (try clear hb2); (try clear hk); (try clear hi)) | ((with_reducible refine gate_dst (N := 16) rfl ?_); refine box_event ?hg (N := 16) ?hd (cs := #[.int .i64 0, .int .i64 0, .int .i64 0, .int .i64 0, .int .u32 0, .int .u32 0, .int .i64 0, .int .i64 0, .int .i64 0, .int .i64 0, .int .u32 0, .int .u32 0, .int .i64 0, .int .i64 0]) (t := 32) ?hr ?_; (case hd => rfl); (case hg => rfl); (case hr => first | (go_simp; done) | (go_simp; rfl)); intro gb558 hg w65 hbox hb; have n0_ := Aside0.mk (blk_below (g := gb534) (o := .cells #[.int .u8 (Int.tmod a0_0 2), .int .u32 a0_1, .int .u32 a0_2, .int .u16 a0_3, .int .u16 a0_4, .int .u8 a0_5, .int .u8 a0_6, .string a0_7, .bool a0_8, .int .u32 a0_9, .int .u32 a0_10] 25 (0, 0)) (BD BK534) hb); have n1_ := Aside0.mk (below_step (BW HB) hb); have n2_ := Aside0.mk (hbox); have n3_ := Aside0.mk ((by rw [hg]; exact (below_size (BW HB)) : w.heap.size ≤ gb558)); have n4_ := Aside0.mk ((by rw [hg]; exact (below_size (BW HB)) : w.heap.size ≤ gb558)); have n5_ := Aside0.mk ((by rw [hg]; exact Nat.ne_of_lt (blk_lt (g := gb534) (o := .cells #[.int .u8 (Int.tmod a0_0 2), .int .u32 a0_1, .int .u32 a0_2, .int .u16 a0_3, .int .u16 a0_4, .int .u8 a0_5, .int .u8 a0_6, .string a0_7, .bool a0_8, .int .u32 a0_9, .int .u32 a0_10] 25 (0, 0)) (BD BK534)) : gb534 ≠ gb558)); have n6_ := Aside0.mk ((by rw [hg]; exact Nat.ne_of_gt (blk_lt (g := gb534) (o := .cells #[.int .u8 (Int.tmod a0_0 2), .int .u32 a0_1, .int .u32 a0_2, .int .u16 a0_3, .int .u16 a0_4, .int .u8 a0_5, .int .u8 a0_6, .string a0_7, .bool a0_8, .int .u32 a0_9, .int .u32 a0_10] 25 (0, 0)) (BD BK534)) : gb558 ≠ gb534)); clear BK534; clear HB; have BK534 := n0_; have HB := n1_; have BK558 := n2_; have GW558 := n3_; have GE558 := n4_; have NB534_558 := n5_; have NB558_534 := n6_; clear n0_ n1_ n2_ n3_ n4_ n5_ n6_; clear hb hbox hg; have hnb66 := NB558_534.out; have hnc66 := NB534_558.out; obtain ⟨hcz67_0, hcz67_1, hcz67_2, hcz67_3, hcz67_4, hcz67_5, hcz67_6, hcz67_7, hcz67_8, hcz67_9, hcz67_10, hcz67_11, hcz67_12, hcz67_13, hfz67_0, hfz67_1, hfz67_2, hfz67_3, hfz67_4, hfz67_5, hfz67_6, hfz67_7, hfz67_8, hfz67_9, hfz67_10, hfz67_11, hfz67_12, hfz67_13⟩ := blk14 BK558.out) | ((with_reducible refine gate_callee (f := 12) rfl ?_); refine goesL_ (some 82) rfl rfl Try.func12 (by kernel_rfl) rfl #[.string t539] rfl AG ?_; (with_reducible refine (packet_Classify.calls t539 t559 t560 t561 t562 t563 t564 t565 t566 t567 t568 t569 t570 t571 t572 t573 _ A15.out).mono ?_); rintro e w68 ⟨rfl, hb⟩; (try clear A15); refine ⟨_, rfl, ?_⟩; have n0_ := Aside0.mk (blk_below (g := gb534) (o := .cells #[.int .u8 (Int.tmod a0_0 2), .int .u32 a0_1, .int .u32 a0_2, .int .u16 a0_3, .int .u16 a0_4, .int .u8 a0_5, .int .u8 a0_6, .string a0_7, .bool a0_8, .int .u32 a0_9, .int .u32 a0_10] 25 (0, 0)) (BE BK534) hb); have n1_ := Aside0.mk (blk_below (g := gb558) (o := .cells #[.int .i64 t543, .int .i64 t544, .int .i64 t545, .int .i64 t546, .int .u32 t547, .int .u32 t548, .int .i64 t549, .int .i64 t550, .int .i64 t551, .int .i64 t552, .int .u32 t553, .int .u32 t554, .int .i64 t555, .int .i64 t556] 32 (0, 0)) (BE BK558) hb); have n2_ := Aside0.mk (below_step (BW HB) hb); clear BK534; clear BK558; clear HB; have BK534 := n0_; have BK558 := n1_; have HB := n2_; clear n0_ n1_ n2_; (try clear hb); (try clear hb2); (try clear hk); (try clear hi)) | ((with_reducible refine gate_dst (N := 18) rfl ?_); refine box_event ?hg (N := 18) ?hd (cs := #[.int .i64 0, .int .i64 0, .int .i64 0, .int .i64 0, .int .u32 0, .int .u32 0, .int .i64 0, .int .i64 0, .int .i64 0, .int .i64 0, .int .u32 0, .int .u32 0, .int .i64 0, .int .i64 0]) (t := 32) ?hr ?_; (case hd => rfl); (case hg => rfl); (case hr => first | (go_simp; done) | (go_simp; rfl)); intro gb574 hg w69 hbox hb; have n0_ := Aside0.mk (blk_below (g := gb534) (o := .cells #[.int .u8 (Int.tmod a0_0 2), .int .u32 a0_1, .int .u32 a0_2, .int .u16 a0_3, .int .u16 a0_4, .int .u8 a0_5, .int .u8 a0_6, .string a0_7, .bool a0_8, .int .u32 a0_9, .int .u32 a0_10] 25 (0, 0)) (BD BK534) hb); have n1_ := Aside0.mk (blk_below (g := gb558) (o := .cells #[.int .i64 t543, .int .i64 t544, .int .i64 t545, .int .i64 t546, .int .u32 t547, .int .u32 t548, .int .i64 t549, .int .i64 t550, .int .i64 t551, .int .i64 t552, .int .u32 t553, .int .u32 t554, .int .i64 t555, .int .i64 t556] 32 (0, 0)) (BD BK558) hb); have n2_ := Aside0.mk (below_step (BW HB) hb); have n3_ := Aside0.mk (hbox); have n4_ := Aside0.mk ((by rw [hg]; exact (below_size (BW HB)) : w.heap.size ≤ gb574)); have n5_ := Aside0.mk ((by rw [hg]; exact (below_size (BW HB)) : w.heap.size ≤ gb574)); have n6_ := Aside0.mk ((by rw [hg]; exact Nat.ne_of_lt (blk_lt (g := gb534) (o := .cells #[.int .u8 (Int.tmod a0_0 2), .int .u32 a0_1, .int .u32 a0_2, .int .u16 a0_3, .int .u16 a0_4, .int .u8 a0_5, .int .u8 a0_6, .string a0_7, .bool a0_8, .int .u32 a0_9, .int .u32 a0_10] 25 (0, 0)) (BD BK534)) : gb534 ≠ gb574)); have n7_ := Aside0.mk ((by rw [hg]; exact Nat.ne_of_gt (blk_lt (g := gb534) (o := .cells #[.int .u8 (Int.tmod a0_0 2), .int .u32 a0_1, .int .u32 a0_2, .int .u16 a0_3, .int .u16 a0_4, .int .u8 a0_5, .int .u8 a0_6, .string a0_7, .bool a0_8, .int .u32 a0_9, .int .u32 a0_10] 25 (0, 0)) (BD BK534)) : gb574 ≠ gb534)); have n8_ := Aside0.mk ((by rw [hg]; exact Nat.ne_of_lt (blk_lt (g := gb558) (o := .cells #[.int .i64 t543, .int .i64 t544, .int .i64 t545, .int .i64 t546, .int .u32 t547, .int .u32 t548, .int .i64 t549, .int .i64 t550, .int .i64 t551, .int .i64 t552, .int .u32 t553, .int .u32 t554, .int .i64 t555, .int .i64 t556] 32 (0, 0)) (BD BK558)) : gb558 ≠ gb574)); have n9_ := Aside0.mk ((by rw [hg]; exact Nat.ne_of_gt (blk_lt (g := gb558) (o := .cells #[.int .i64 t543, .int .i64 t544, .int .i64 t545, .int .i64 t546, .int .u32 t547, .int .u32 t548, .int .i64 t549, .int .i64 t550, .int .i64 t551, .int .i64 t552, .int .u32 t553, .int .u32 t554, .int .i64 t555, .int .i64 t556] 32 (0, 0)) (BD BK558)) : gb574 ≠ gb558)); clear BK534; clear BK558; clear HB; have BK534 := n0_; have BK558 := n1_; have HB := n2_; have BK574 := n3_; have GW574 := n4_; have GE574 := n5_; have NB534_574 := n6_; have NB574_534 := n7_; have NB558_574 := n8_; have NB574_558 := n9_; clear n0_ n1_ n2_ n3_ n4_ n5_ n6_ n7_ n8_ n9_; clear hb hbox hg; have hnb70 := NB574_534.out; have hnc70 := NB534_574.out; have hnb71 := NB574_558.out; have hnc71 := NB558_574.out; obtain ⟨hcz72_0, hcz72_1, hcz72_2, hcz72_3, hcz72_4, hcz72_5, hcz72_6, hcz72_7, hcz72_8, hcz72_9, hcz72_10, hcz72_11, hcz72_12, hcz72_13, hfz72_0, hfz72_1, hfz72_2, hfz72_3, hfz72_4, hfz72_5, hfz72_6, hfz72_7, hfz72_8, hfz72_9, hfz72_10, hfz72_11, hfz72_12, hfz72_13⟩ := blk14 BK574.out) | ((with_reducible refine gate_callee (f := 12) rfl ?_); refine goesL_ (some 87) rfl rfl Try.func12 (by kernel_rfl) rfl #[.string t541] rfl AG ?_; (with_reducible refine (packet_Classify.calls t541 t575 t576 t577 t578 t579 t580 t581 t582 t583 t584 t585 t586 t587 t588 t589 _ A16.out).mono ?_); rintro e w73 ⟨rfl, hb⟩; (try clear A16); refine ⟨_, rfl, ?_⟩; have n0_ := Aside0.mk (blk_below (g := gb534) (o := .cells #[.int .u8 (Int.tmod a0_0 2), .int .u32 a0_1, .int .u32 a0_2, .int .u16 a0_3, .int .u16 a0_4, .int .u8 a0_5, .int .u8 a0_6, .string a0_7, .bool a0_8, .int .u32 a0_9, .int .u32 a0_10] 25 (0, 0)) (BE BK534) hb); have n1_ := Aside0.mk (blk_below (g := gb558) (o := .cells #[.int .i64 t543, .int .i64 t544, .int .i64 t545, .int .i64 t546, .int .u32 t547, .int .u32 t548, .int .i64 t549, .int .i64 t550, .int .i64 t551, .int .i64 t552, .int .u32 t553, .int .u32 t554, .int .i64 t555, .int .i64 t556] 32 (0, 0)) (BE BK558) hb); have n2_ := Aside0.mk (blk_below (g := gb574) (o := .cells #[.int .i64 t559, .int .i64 t560, .int .i64 t561, .int .i64 t562, .int .u32 t563, .int .u32 t564, .int .i64 t565, .int .i64 t566, .int .i64 t567, .int .i64 t568, .int .u32 t569, .int .u32 t570, .int .i64 t571, .int .i64 t572] 32 (0, 0)) (BE BK574) hb); have n3_ := Aside0.mk (below_step (BW HB) hb); clear BK534; clear BK558; clear BK574; clear HB; have BK534 := n0_; have BK558 := n1_; have BK574 := n2_; have HB := n3_; clear n0_ n1_ n2_ n3_; (try clear hb); (try clear hb2); (try clear hk); (try clear hi)) | ((with_reducible refine gate_dst (N := 20) rfl ?_); refine box_event ?hg (N := 20) ?hd (cs := #[.int .i64 0, .int .i64 0, .int .i64 0, .int .i64 0, .int .u32 0, .int .u32 0, .int .i64 0, .int .i64 0, .int .i64 0, .int .i64 0, .int .u32 0, .int .u32 0, .int .i64 0, .int .i64 0]) (t := 32) ?hr ?_; (case hd => rfl); (case hg => rfl); (case hr => first | (go_simp; done) | (go_simp; rfl)); intro gb590 hg w74 hbox hb; have n0_ := Aside0.mk (blk_below (g := gb534) (o := .cells #[.int .u8 (Int.tmod a0_0 2), .int .u32 a0_1, .int .u32 a0_2, .int .u16 a0_3, .int .u16 a0_4, .int .u8 a0_5, .int .u8 a0_6, .string a0_7, .bool a0_8, .int .u32 a0_9, .int .u32 a0_10] 25 (0, 0)) (BD BK534) hb); have n1_ := Aside0.mk (blk_below (g := gb558) (o := .cells #[.int .i64 t543, .int .i64 t544, .int .i64 t545, .int .i64 t546, .int .u32 t547, .int .u32 t548, .int .i64 t549, .int .i64 t550, .int .i64 t551, .int .i64 t552, .int .u32 t553, .int .u32 t554, .int .i64 t555, .int .i64 t556] 32 (0, 0)) (BD BK558) hb); have n2_ := Aside0.mk (blk_below (g := gb574) (o := .cells #[.int .i64 t559, .int .i64 t560, .int .i64 t561, .int .i64 t562, .int .u32 t563, .int .u32 t564, .int .i64 t565, .int .i64 t566, .int .i64 t567, .int .i64 t568, .int .u32 t569, .int .u32 t570, .int .i64 t571, .int .i64 t572] 32 (0, 0)) (BD BK574) hb); have n3_ := Aside0.mk (below_step (BW HB) hb); have n4_ := Aside0.mk (hbox); have n5_ := Aside0.mk ((by rw [hg]; exact (below_size (BW HB)) : w.heap.size ≤ gb590)); have n6_ := Aside0.mk ((by rw [hg]; exact (below_size (BW HB)) : w.heap.size ≤ gb590)); have n7_ := Aside0.mk ((by rw [hg]; exact Nat.ne_of_lt (blk_lt (g := gb534) (o := .cells #[.int .u8 (Int.tmod a0_0 2), .int .u32 a0_1, .int .u32 a0_2, .int .u16 a0_3, .int .u16 a0_4, .int .u8 a0_5, .int .u8 a0_6, .string a0_7, .bool a0_8, .int .u32 a0_9, .int .u32 a0_10] 25 (0, 0)) (BD BK534)) : gb534 ≠ gb590)); have n8_ := Aside0.mk ((by rw [hg]; exact Nat.ne_of_gt (blk_lt (g := gb534) (o := .cells #[.int .u8 (Int.tmod a0_0 2), .int .u32 a0_1, .int .u32 a0_2, .int .u16 a0_3, .int .u16 a0_4, .int .u8 a0_5, .int .u8 a0_6, .string a0_7, .bool a0_8, .int .u32 a0_9, .int .u32 a0_10] 25 (0, 0)) (BD BK534)) : gb590 ≠ gb534)); have n9_ := Aside0.mk ((by rw [hg]; exact Nat.ne_of_lt (blk_lt (g := gb558) (o := .cells #[.int .i64 t543, .int .i64 t544, .int .i64 t545, .int .i64 t546, .int .u32 t547, .int .u32 t548, .int .i64 t549, .int .i64 t550, .int .i64 t551, .int .i64 t552, .int .u32 t553, .int .u32 t554, .int .i64 t555, .int .i64 t556] 32 (0, 0)) (BD BK558)) : gb558 ≠ gb590)); have n10_ := Aside0.mk ((by rw [hg]; exact Nat.ne_of_gt (blk_lt (g := gb558) (o := .cells #[.int .i64 t543, .int .i64 t544, .int .i64 t545, .int .i64 t546, .int .u32 t547, .int .u32 t548, .int .i64 t549, .int .i64 t550, .int .i64 t551, .int .i64 t552, .int .u32 t553, .int .u32 t554, .int .i64 t555, .int .i64 t556] 32 (0, 0)) (BD BK558)) : gb590 ≠ gb558)); have n11_ := Aside0.mk ((by rw [hg]; exact Nat.ne_of_lt (blk_lt (g := gb574) (o := .cells #[.int .i64 t559, .int .i64 t560, .int .i64 t561, .int .i64 t562, .int .u32 t563, .int .u32 t564, .int .i64 t565, .int .i64 t566, .int .i64 t567, .int .i64 t568, .int .u32 t569, .int .u32 t570, .int .i64 t571, .int .i64 t572] 32 (0, 0)) (BD BK574)) : gb574 ≠ gb590)); have n12_ := Aside0.mk ((by rw [hg]; exact Nat.ne_of_gt (blk_lt (g := gb574) (o := .cells #[.int .i64 t559, .int .i64 t560, .int .i64 t561, .int .i64 t562, .int .u32 t563, .int .u32 t564, .int .i64 t565, .int .i64 t566, .int .i64 t567, .int .i64 t568, .int .u32 t569, .int .u32 t570, .int .i64 t571, .int .i64 t572] 32 (0, 0)) (BD BK574)) : gb590 ≠ gb574)); clear BK534; clear BK558; clear BK574; clear HB; have BK534 := n0_; have BK558 := n1_; have BK574 := n2_; have HB := n3_; have BK590 := n4_; have GW590 := n5_; have GE590 := n6_; have NB534_590 := n7_; have NB590_534 := n8_; have NB558_590 := n9_; have NB590_558 := n10_; have NB574_590 := n11_; have NB590_574 := n12_; clear n0_ n1_ n2_ n3_ n4_ n5_ n6_ n7_ n8_ n9_ n10_ n11_ n12_; clear hb hbox hg; have hnb75 := NB590_534.out; have hnc75 := NB534_590.out; have hnb76 := NB590_558.out; have hnc76 := NB558_590.out; have hnb77 := NB590_574.out; have hnc77 := NB574_590.out; obtain ⟨hcz78_0, hcz78_1, hcz78_2, hcz78_3, hcz78_4, hcz78_5, hcz78_6, hcz78_7, hcz78_8, hcz78_9, hcz78_10, hcz78_11, hcz78_12, hcz78_13, hfz78_0, hfz78_1, hfz78_2, hfz78_3, hfz78_4, hfz78_5, hfz78_6, hfz78_7, hfz78_8, hfz78_9, hfz78_10, hfz78_11, hfz78_12, hfz78_13⟩ := blk14 BK590.out))
  go_ret
  exact ⟨RT, BW HB⟩
 rw [if_neg c48] at H
 have c48b0 : (a2 == 6) = false := beq_eq_false_iff_ne.mpr c48
 have c48b1 : (a2 != 6) = true := bne_iff_ne.mpr c48
 by_cases c79 : t538 = 0
 rotate_left
 ·rw [if_neg c79] at H
  have c79b0 : (t538 == 0) = false := beq_eq_false_iff_ne.mpr c79
  have c79b1 : (t538 != 0) = true := bne_iff_ne.mpr c79
  exact absurd ((Option.some.inj H).trans hr_) (by decide)
 rw [if_pos c79] at H
 have c79b0 : (t538 == 0) = true := beq_iff_eq.mpr c79
 have c79b1 : (t538 != 0) = false := bne_eq_false_iff_eq.mpr c79
 clear c79
 by_cases c80 : t540 = 0
 rotate_left
 ·rw [if_neg c80] at H
  have c80b0 : (t540 == 0) = false := beq_eq_false_iff_ne.mpr c80
  have c80b1 : (t540 != 0) = true := bne_iff_ne.mpr c80
  exact absurd ((Option.some.inj H).trans hr_) (by decide)
 rw [if_pos c80] at H
 have c80b0 : (t540 == 0) = true := beq_iff_eq.mpr c80
 have c80b1 : (t540 != 0) = false := bne_eq_false_iff_eq.mpr c80
 clear c80
 by_cases c81 : t542 = 0
 rotate_left
 ·rw [if_neg c81] at H
  have c81b0 : (t542 == 0) = false := beq_eq_false_iff_ne.mpr c81
  have c81b1 : (t542 != 0) = true := bne_iff_ne.mpr c81
  exact absurd ((Option.some.inj H).trans hr_) (by decide)
 rw [if_pos c81] at H
 have c81b0 : (t542 == 0) = true := beq_iff_eq.mpr c81
 have c81b1 : (t542 != 0) = false := bne_eq_false_iff_eq.mpr c81
 clear c81
 by_cases c82 : t557 = 8
 rotate_left
 ·rw [if_neg c82] at H
  have c82b0 : (t557 == 8) = false := beq_eq_false_iff_ne.mpr c82
  have c82b1 : (t557 != 8) = true := bne_iff_ne.mpr c82
  exact absurd ((Option.some.inj H).trans hr_) (by decide)
 rw [if_pos c82] at H
 have c82b0 : (t557 == 8) = true := beq_iff_eq.mpr c82
 have c82b1 : (t557 != 8) = false := bne_eq_false_iff_eq.mpr c82
 clear c82
 by_cases c83 : t573 = 8
 rotate_left
 ·rw [if_neg c83] at H
  have c83b0 : (t573 == 8) = false := beq_eq_false_iff_ne.mpr c83
  have c83b1 : (t573 != 8) = true := bne_iff_ne.mpr c83
  exact absurd ((Option.some.inj H).trans hr_) (by decide)
 rw [if_pos c83] at H
 have c83b0 : (t573 == 8) = true := beq_iff_eq.mpr c83
 have c83b1 : (t573 != 8) = false := bne_eq_false_iff_eq.mpr c83
 clear c83
 obtain rfl := Option.some.inj H
 go_enter Try.func5, Try.ntmps5
 try go_wp2_with (first | ((with_reducible refine gate_dst (N := 3) rfl ?_); refine box_event ?hg (N := 3) ?hd (cs := #[.int .u8 a0_0, .int .u32 a0_1, .int .u32 a0_2, .int .u16 a0_3, .int .u16 a0_4, .int .u8 a0_5, .int .u8 a0_6, .string a0_7, .bool a0_8, .int .u32 a0_9, .int .u32 a0_10]) (t := 25) ?hr ?_; (case hd => rfl); (case hg => rfl); (case hr => first | (go_simp; done) | (go_simp; rfl)); intro gb534 hg w84 hbox hb; have n0_ := Aside0.mk (below_step (BW HB) hb); have n1_ := Aside0.mk (hbox); have n2_ := Aside0.mk ((by rw [hg]; exact (below_size (BW HB)) : w.heap.size ≤ gb534)); have n3_ := Aside0.mk ((by rw [hg]; exact (below_size (BW HB)) : w.heap.size ≤ gb534)); clear HB; have HB := n0_; have BK534 := n1_; have GW534 := n2_; have GE534 := n3_; clear n0_ n1_ n2_ n3_; clear hb hbox hg) | ((with_reducible refine gate_callee (f := 9) rfl ?_); refine goesL_ (some 23) rfl rfl Try.func9 (by kernel_rfl) rfl #[] rfl AG ?_; (with_reducible refine (weighbridgelaw09_examples.calls  true _ A4.out).mono ?_); rintro e w85 ⟨rfl, hb⟩; (try clear A4); refine ⟨_, rfl, ?_⟩; have n0_ := Aside0.mk (blk_below (g := gb534) (o := .cells #[.int .u8 a0_0, .int .u32 a0_1, .int .u32 a0_2, .int .u16 a0_3, .int .u16 a0_4, .int .u8 a0_5, .int .u8 a0_6, .string a0_7, .bool a0_8, .int .u32 a0_9, .int .u32 a0_10] 25 (0, 0)) (BD BK534) hb); have n1_ := Aside0.mk (below_step (BW HB) hb); clear BK534; clear HB; have BK534 := n0_; have HB := n1_; clear n0_ n1_; (try clear hb); (try clear hb2); (try clear hk); (try clear hi); obtain ⟨hcz86_0, hcz86_1, hcz86_2, hcz86_3, hcz86_4, hcz86_5, hcz86_6, hcz86_7, hcz86_8, hcz86_9, hcz86_10, hfz86_0, hfz86_1, hfz86_2, hfz86_3, hfz86_4, hfz86_5, hfz86_6, hfz86_7, hfz86_8, hfz86_9, hfz86_10⟩ := blk11 BK534.out) | ((with_reducible refine gate_callee (f := 11) rfl ?_); refine goesL_ (some 31) rfl rfl Try.func11 (by kernel_rfl) rfl #[.agg #[.int .u8 (Int.tmod a0_0 2), .int .u32 a0_1, .int .u32 a0_2, .int .u16 a0_3, .int .u16 a0_4, .int .u8 a0_5, .int .u8 a0_6, .string a0_7, .bool a0_8, .int .u32 a0_9, .int .u32 a0_10]] rfl AG ?_; (with_reducible refine (weighbridgelaw09_Make_frame.calls (Int.tmod a0_0 2) a0_1 a0_2 a0_3 a0_4 a0_5 a0_6 a0_7 a0_8 a0_9 a0_10 t536 _ A6.out).mono ?_); rintro e w87 ⟨rfl, hb⟩; (try clear A6); refine ⟨_, rfl, ?_⟩; have n0_ := Aside0.mk (blk_below (g := gb534) (o := .cells #[.int .u8 (Int.tmod a0_0 2), .int .u32 a0_1, .int .u32 a0_2, .int .u16 a0_3, .int .u16 a0_4, .int .u8 a0_5, .int .u8 a0_6, .string a0_7, .bool a0_8, .int .u32 a0_9, .int .u32 a0_10] 25 (0, 0)) (BE BK534) hb); have n1_ := Aside0.mk (below_step (BW HB) hb); clear BK534; clear HB; have BK534 := n0_; have HB := n1_; clear n0_ n1_; (try clear hb); (try clear hb2); (try clear hk); (try clear hi)))
 have n0_ := Aside0.mk (blk_drew BK534.out)
 have n1_ := Aside0.mk (below_drew1 HB.out)
 clear BK534
 clear HB
 have BK534 := n0_
 have HB := n1_
 clear n0_ n1_
 refine start_ (n := 14) (S := fun w' => w'.cell? ⟨gb534, 0, none⟩ = some (.int .u8 (Int.tmod a0_0 2)) ∧ w'.cell? ⟨gb534, 1, none⟩ = some (.int .u32 a0_1) ∧ w'.cell? ⟨gb534, 2, none⟩ = some (.int .u32 a0_2) ∧ w'.cell? ⟨gb534, 3, none⟩ = some (.int .u16 a0_3) ∧ w'.cell? ⟨gb534, 4, none⟩ = some (.int .u16 a0_4) ∧ w'.cell? ⟨gb534, 5, none⟩ = some (.int .u8 a0_5) ∧ w'.cell? ⟨gb534, 6, none⟩ = some (.int .u8 a0_6) ∧ w'.cell? ⟨gb534, 7, none⟩ = some (.string a0_7) ∧ w'.cell? ⟨gb534, 8, none⟩ = some (.bool a0_8) ∧ w'.cell? ⟨gb534, 9, none⟩ = some (.int .u32 a0_9) ∧ w'.cell? ⟨gb534, 10, none⟩ = some (.int .u32 a0_10)) (ds := []) (bm 14 0x0) (by kernel_rfl) rfl rfl ⟨(blk_cell BK534.out 0).trans rfl, (blk_cell BK534.out 1).trans rfl, (blk_cell BK534.out 2).trans rfl, (blk_cell BK534.out 3).trans rfl, (blk_cell BK534.out 4).trans rfl, (blk_cell BK534.out 5).trans rfl, (blk_cell BK534.out 6).trans rfl, (blk_cell BK534.out 7).trans rfl, (blk_cell BK534.out 8).trans rfl, (blk_cell BK534.out 9).trans rfl, (blk_cell BK534.out 10).trans rfl⟩ (fun hHeld => ?_); refine with_tabW weighbridgelaw09_PacketParts.tab9 weighbridgelaw09_PacketParts.bits9 (fun HT_ HW_ => ?_)
 generalize w87.drew = w88 at BK534 HB hHeld ⊢
 refine pure_ (i := 0) (N := some 40) (v := ?_) (a' := ?_) (bm 14 0x1) rfl rfl (any_of HT_.out (by kernel_rfl)) (fun _ _ _ h => h) (Or.inl ⟨by rfl, ?_⟩) ?_ ?_
 rotate_left
 ·intro w'
  go_simp
  with_reducible rfl
 rotate_left
 ·simp only [Act.put, zpA, zpO, zpS, i64_w, i32_w]
  rfl
 refine pure_ (i := 1) (N := some 41) (v := ?_) (a' := ?_) (bm 14 0x3) rfl rfl (any_of HT_.out (by kernel_rfl)) (fun _ _ _ h => h) (Or.inl ⟨by rfl, ?_⟩) ?_ ?_
 rotate_left
 ·intro w'
  go_simp
  with_reducible rfl
 rotate_left
 ·simp only [Act.put, zpA, zpO, zpS, i64_w, i32_w]
  rfl
 refine pure_ (i := 3) (N := some 43) (v := ?_) (a' := ?_) (bm 14 0xb) rfl rfl (any_of HT_.out (by kernel_rfl)) (fun _ _ _ h => h) (Or.inl ⟨by rfl, ?_⟩) ?_ ?_
 rotate_left
 ·intro w'
  go_simp
  with_reducible rfl
 rotate_left
 ·simp only [Act.put, zpA, zpO, zpS, i64_w, i32_w]
  rfl
 refine pure_ (i := 6) (N := some 46) (v := ?_) (a' := ?_) (bm 14 0x4b) rfl rfl (any_of HT_.out (by kernel_rfl)) (fun _ _ _ h => h) (Or.inl ⟨by rfl, ?_⟩) ?_ ?_
 rotate_left
 ·intro w'
  go_simp
  with_reducible rfl
 rotate_left
 ·simp only [Act.put, zpA, zpO, zpS, i64_w, i32_w]
  rfl
 refine pure_ (i := 7) (N := some 47) (v := ?_) (a' := ?_) (bm 14 0xcb) rfl rfl (any_of HT_.out (by kernel_rfl)) (fun _ _ _ h => h) (Or.inl ⟨by rfl, ?_⟩) ?_ ?_
 rotate_left
 ·intro w'
  go_simp
  with_reducible rfl
 rotate_left
 ·simp only [Act.put, zpA, zpO, zpS, i64_w, i32_w]
  rfl
 refine take_ (i := 2) (N := some 42) (v := ?_) (a' := ?_) (bm 14 0xcf) rfl rfl (take_ofW HT_.out HW_.out (by kernel_rfl)) (fun _ _ _ h => h) (Or.inl ⟨by rfl, ?_⟩) hHeld ?_ ?_
 rotate_left
 ·rintro w' ⟨s0, s1, s2, s3, s4, s5, s6, s7, s8, s9, s10⟩
  go_simp
  with_reducible rfl
 rotate_left
 ·simp only [Act.put, zpA, zpO, zpS, i64_w, i32_w]
  rfl
 refine take_ (i := 4) (N := some 44) (v := ?_) (a' := ?_) (bm 14 0xdf) rfl rfl (take_ofW HT_.out HW_.out (by kernel_rfl)) (fun _ _ _ h => h) (Or.inl ⟨by rfl, ?_⟩) hHeld ?_ ?_
 rotate_left
 ·rintro w' ⟨s0, s1, s2, s3, s4, s5, s6, s7, s8, s9, s10⟩
  go_simp
  with_reducible rfl
 rotate_left
 ·simp only [Act.put, zpA, zpO, zpS, i64_w, i32_w]
  rfl
 refine pure_ (i := 5) (N := some 45) (v := ?_) (a' := ?_) (bm 14 0xff) rfl rfl (any_of HT_.out (by kernel_rfl)) (fun _ _ _ h => h) (Or.inl ⟨by rfl, ?_⟩) ?_ ?_
 rotate_left
 ·intro w'
  go_simp
  with_reducible rfl
 rotate_left
 ·simp only [Act.put, zpA, zpO, zpS, i64_w, i32_w]
  rfl
 refine one_ (i := 8) (N := some 48) (bm 14 0x1ff) rfl rfl (one_of HT_.out (by kernel_rfl)) (by decide) (fun K hK => ?_)
 refine goes_ Try.func15 (by kernel_rfl) rfl #[.agg #[.int .i64 0, .int .i64 0, .int .i64 0, .int .i64 (wrap64 (1 + (wrap64 (Int.tmod a1 8191)))), .int .i64 5, .int .i64 6, .int .u32 a0_1, .int .u32 a0_2, .string (⟨#[]⟩ : ByteArray)], .string (t536.extract 20 t536.size)] (by rfl) rfl rfl (by (try simp only [List.map_toArray, List.map_cons, List.map_nil]); first | done | rfl | (simp only [Int.toNat_natCast]; first | done | rfl) | (rw [Int.toNat_natCast, ByteArray.extract_zero_size]; rfl) | (simp only [List.length_drop, List.length_take]; rfl)) ?_
 with_reducible refine (weighbridgeref04_Build.calls 0 0 0 (wrap64 (1 + (wrap64 (Int.tmod a1 8191)))) 5 6 a0_1 a0_2 (⟨#[]⟩ : ByteArray) (t536.extract 20 t536.size) t537 t538 _ A9.out).mono ?_
 rintro e w89 ⟨rfl, hb⟩
 refine ⟨_, rfl, ?_⟩
 have n0_ := Aside0.mk (blk_below (g := gb534) (o := .cells #[.int .u8 (Int.tmod a0_0 2), .int .u32 a0_1, .int .u32 a0_2, .int .u16 a0_3, .int .u16 a0_4, .int .u8 a0_5, .int .u8 a0_6, .string a0_7, .bool a0_8, .int .u32 a0_9, .int .u32 a0_10] 25 (0, 0)) (BD BK534) hb)
 have n1_ := Aside0.mk (below_step (BW HB) hb)
 clear BK534
 clear HB
 have BK534 := n0_
 have HB := n1_
 clear n0_ n1_
 (try clear hb)
 (try clear hb2)
 (try clear hk)
 (try clear hi)
 refine hK.out _ _ ⟨(blk_cell BK534.out 0).trans rfl, (blk_cell BK534.out 1).trans rfl, (blk_cell BK534.out 2).trans rfl, (blk_cell BK534.out 3).trans rfl, (blk_cell BK534.out 4).trans rfl, (blk_cell BK534.out 5).trans rfl, (blk_cell BK534.out 6).trans rfl, (blk_cell BK534.out 7).trans rfl, (blk_cell BK534.out 8).trans rfl, (blk_cell BK534.out 9).trans rfl, (blk_cell BK534.out 10).trans rfl⟩ (fun hHeld => ?_)
 clear hK K
 refine norm_ (a' := ?_) ?_ ?_
 rotate_left
 ·show Act.put _ (some 48) _ = _
  simp only [Act.put, zpA, zpO, zpS, i64_w, i32_w]
  rfl
 refine pure_ (i := 9) (N := some 39) (v := ?_) (a' := ?_) (bm 14 0x3ff) rfl rfl (any_of HT_.out (by kernel_rfl)) (fun _ _ _ h => h) (Or.inl ⟨by rfl, ?_⟩) ?_ ?_
 rotate_left
 ·intro w'
  go_simp
  with_reducible rfl
 rotate_left
 ·simp only [Act.put, zpA, zpO, zpS, i64_w, i32_w]
  rfl
 refine pure_ (i := 10) (N := some 49) (v := ?_) (a' := ?_) (bm 14 0x7ff) rfl rfl (any_of HT_.out (by kernel_rfl)) (fun _ _ _ h => h) (Or.inl ⟨by rfl, ?_⟩) ?_ ?_
 rotate_left
 ·intro w'
  go_simp
  with_reducible rfl
 rotate_left
 ·simp only [Act.put, zpA, zpO, zpS, i64_w, i32_w]
  rfl
 refine pure_ (i := 11) (N := some 50) (v := ?_) (a' := ?_) (bm 14 0xfff) rfl rfl (any_of HT_.out (by kernel_rfl)) (fun _ _ _ h => h) (Or.inl ⟨by rfl, ?_⟩) ?_ ?_
 rotate_left
 ·intro w'
  go_simp
  with_reducible rfl
 rotate_left
 ·simp only [Act.put, zpA, zpO, zpS, i64_w, i32_w]
  rfl
 refine pure_ (i := 12) (N := some 10) (v := ?_) (a' := ?_) (bm 14 0x1fff) rfl rfl (any_of HT_.out (by kernel_rfl)) (fun _ _ _ h => h) (Or.inl ⟨by rfl, ?_⟩) ?_ ?_
 rotate_left
 ·intro w'
  go_simp
  with_reducible rfl
 rotate_left
 ·simp only [Act.put, zpA, zpO, zpS, i64_w, i32_w]
  rfl
 refine pure_ (i := 13) (N := some 11) (v := ?_) (a' := ?_) (bm 14 0x3fff) rfl rfl (any_of HT_.out (by kernel_rfl)) (fun _ _ _ h => h) (Or.inl ⟨by rfl, ?_⟩) ?_ ?_
 rotate_left
 ·intro w'
  go_simp
  with_reducible rfl
 rotate_left
 ·simp only [Act.put, zpA, zpO, zpS, i64_w, i32_w]
  rfl
 refine done_ (done_of HT_.out (by kernel_rfl)) ?_
 try go_wp2
 have n0_ := Aside0.mk (blk_drew BK534.out)
 have n1_ := Aside0.mk (below_drew1 HB.out)
 clear BK534
 clear HB
 have BK534 := n0_
 have HB := n1_
 clear n0_ n1_
 refine start_ (n := 13) (S := fun w' => w'.cell? ⟨gb534, 0, none⟩ = some (.int .u8 (Int.tmod a0_0 2)) ∧ w'.cell? ⟨gb534, 1, none⟩ = some (.int .u32 a0_1) ∧ w'.cell? ⟨gb534, 2, none⟩ = some (.int .u32 a0_2) ∧ w'.cell? ⟨gb534, 3, none⟩ = some (.int .u16 a0_3) ∧ w'.cell? ⟨gb534, 4, none⟩ = some (.int .u16 a0_4) ∧ w'.cell? ⟨gb534, 5, none⟩ = some (.int .u8 a0_5) ∧ w'.cell? ⟨gb534, 6, none⟩ = some (.int .u8 a0_6) ∧ w'.cell? ⟨gb534, 7, none⟩ = some (.string a0_7) ∧ w'.cell? ⟨gb534, 8, none⟩ = some (.bool a0_8) ∧ w'.cell? ⟨gb534, 9, none⟩ = some (.int .u32 a0_9) ∧ w'.cell? ⟨gb534, 10, none⟩ = some (.int .u32 a0_10)) (ds := []) (bm 13 0x0) (by kernel_rfl) rfl rfl ⟨(blk_cell BK534.out 0).trans rfl, (blk_cell BK534.out 1).trans rfl, (blk_cell BK534.out 2).trans rfl, (blk_cell BK534.out 3).trans rfl, (blk_cell BK534.out 4).trans rfl, (blk_cell BK534.out 5).trans rfl, (blk_cell BK534.out 6).trans rfl, (blk_cell BK534.out 7).trans rfl, (blk_cell BK534.out 8).trans rfl, (blk_cell BK534.out 9).trans rfl, (blk_cell BK534.out 10).trans rfl⟩ (fun hHeld => ?_); refine with_tabW weighbridgelaw09_PacketParts.tab10 weighbridgelaw09_PacketParts.bits10 (fun HT_ HW_ => ?_)
 generalize w89.drew = w90 at BK534 HB hHeld ⊢
 refine pure_ (i := 0) (N := some 52) (v := ?_) (a' := ?_) (bm 13 0x1) rfl rfl (any_of HT_.out (by kernel_rfl)) (fun _ _ _ h => h) (Or.inl ⟨by rfl, ?_⟩) ?_ ?_
 rotate_left
 ·intro w'
  go_simp
  with_reducible rfl
 rotate_left
 ·simp only [Act.put, zpA, zpO, zpS, i64_w, i32_w]
  rfl
 refine pure_ (i := 2) (N := some 54) (v := ?_) (a' := ?_) (bm 13 0x5) rfl rfl (any_of HT_.out (by kernel_rfl)) (fun _ _ _ h => h) (Or.inl ⟨by rfl, ?_⟩) ?_ ?_
 rotate_left
 ·intro w'
  go_simp
  with_reducible rfl
 rotate_left
 ·simp only [Act.put, zpA, zpO, zpS, i64_w, i32_w]
  rfl
 refine pure_ (i := 5) (N := some 57) (v := ?_) (a' := ?_) (bm 13 0x25) rfl rfl (any_of HT_.out (by kernel_rfl)) (fun _ _ _ h => h) (Or.inl ⟨by rfl, ?_⟩) ?_ ?_
 rotate_left
 ·intro w'
  go_simp
  with_reducible rfl
 rotate_left
 ·simp only [Act.put, zpA, zpO, zpS, i64_w, i32_w]
  rfl
 refine pure_ (i := 6) (N := some 58) (v := ?_) (a' := ?_) (bm 13 0x65) rfl rfl (any_of HT_.out (by kernel_rfl)) (fun _ _ _ h => h) (Or.inl ⟨by rfl, ?_⟩) ?_ ?_
 rotate_left
 ·intro w'
  go_simp
  with_reducible rfl
 rotate_left
 ·simp only [Act.put, zpA, zpO, zpS, i64_w, i32_w]
  rfl
 refine take_ (i := 1) (N := some 53) (v := ?_) (a' := ?_) (bm 13 0x67) rfl rfl (take_ofW HT_.out HW_.out (by kernel_rfl)) (fun _ _ _ h => h) (Or.inl ⟨by rfl, ?_⟩) hHeld ?_ ?_
 rotate_left
 ·rintro w' ⟨s0, s1, s2, s3, s4, s5, s6, s7, s8, s9, s10⟩
  go_simp
  with_reducible rfl
 rotate_left
 ·simp only [Act.put, zpA, zpO, zpS, i64_w, i32_w]
  rfl
 refine take_ (i := 3) (N := some 55) (v := ?_) (a' := ?_) (bm 13 0x6f) rfl rfl (take_ofW HT_.out HW_.out (by kernel_rfl)) (fun _ _ _ h => h) (Or.inl ⟨by rfl, ?_⟩) hHeld ?_ ?_
 rotate_left
 ·rintro w' ⟨s0, s1, s2, s3, s4, s5, s6, s7, s8, s9, s10⟩
  go_simp
  with_reducible rfl
 rotate_left
 ·simp only [Act.put, zpA, zpO, zpS, i64_w, i32_w]
  rfl
 refine pure_ (i := 4) (N := some 56) (v := ?_) (a' := ?_) (bm 13 0x7f) rfl rfl (any_of HT_.out (by kernel_rfl)) (fun _ _ _ h => h) (Or.inl ⟨by rfl, ?_⟩) ?_ ?_
 rotate_left
 ·intro w'
  go_simp
  with_reducible rfl
 rotate_left
 ·simp only [Act.put, zpA, zpO, zpS, i64_w, i32_w]
  rfl
 refine one_ (i := 7) (N := some 59) (bm 13 0xff) rfl rfl (one_of HT_.out (by kernel_rfl)) (by decide) (fun K hK => ?_)
 refine goes_ Try.func15 (by kernel_rfl) rfl #[.agg #[.int .i64 0, .int .i64 0, .int .i64 1, .int .i64 0, .int .i64 5, .int .i64 6, .int .u32 a0_1, .int .u32 a0_2, .string (⟨#[]⟩ : ByteArray)], .string (t536.extract 20 t536.size)] (by rfl) rfl rfl (by (try simp only [List.map_toArray, List.map_cons, List.map_nil]); first | done | rfl | (simp only [Int.toNat_natCast]; first | done | rfl) | (rw [Int.toNat_natCast, ByteArray.extract_zero_size]; rfl) | (simp only [List.length_drop, List.length_take]; rfl)) ?_
 with_reducible refine (weighbridgeref04_Build.calls 0 0 1 0 5 6 a0_1 a0_2 (⟨#[]⟩ : ByteArray) (t536.extract 20 t536.size) t539 t540 _ A11.out).mono ?_
 rintro e w91 ⟨rfl, hb⟩
 refine ⟨_, rfl, ?_⟩
 have n0_ := Aside0.mk (blk_below (g := gb534) (o := .cells #[.int .u8 (Int.tmod a0_0 2), .int .u32 a0_1, .int .u32 a0_2, .int .u16 a0_3, .int .u16 a0_4, .int .u8 a0_5, .int .u8 a0_6, .string a0_7, .bool a0_8, .int .u32 a0_9, .int .u32 a0_10] 25 (0, 0)) (BD BK534) hb)
 have n1_ := Aside0.mk (below_step (BW HB) hb)
 clear BK534
 clear HB
 have BK534 := n0_
 have HB := n1_
 clear n0_ n1_
 (try clear hb)
 (try clear hb2)
 (try clear hk)
 (try clear hi)
 refine hK.out _ _ ⟨(blk_cell BK534.out 0).trans rfl, (blk_cell BK534.out 1).trans rfl, (blk_cell BK534.out 2).trans rfl, (blk_cell BK534.out 3).trans rfl, (blk_cell BK534.out 4).trans rfl, (blk_cell BK534.out 5).trans rfl, (blk_cell BK534.out 6).trans rfl, (blk_cell BK534.out 7).trans rfl, (blk_cell BK534.out 8).trans rfl, (blk_cell BK534.out 9).trans rfl, (blk_cell BK534.out 10).trans rfl⟩ (fun hHeld => ?_)
 clear hK K
 refine norm_ (a' := ?_) ?_ ?_
 rotate_left
 ·show Act.put _ (some 59) _ = _
  simp only [Act.put, zpA, zpO, zpS, i64_w, i32_w]
  rfl
 refine pure_ (i := 8) (N := some 51) (v := ?_) (a' := ?_) (bm 13 0x1ff) rfl rfl (any_of HT_.out (by kernel_rfl)) (fun _ _ _ h => h) (Or.inl ⟨by rfl, ?_⟩) ?_ ?_
 rotate_left
 ·intro w'
  go_simp
  with_reducible rfl
 rotate_left
 ·simp only [Act.put, zpA, zpO, zpS, i64_w, i32_w]
  rfl
 refine pure_ (i := 9) (N := some 60) (v := ?_) (a' := ?_) (bm 13 0x3ff) rfl rfl (any_of HT_.out (by kernel_rfl)) (fun _ _ _ h => h) (Or.inl ⟨by rfl, ?_⟩) ?_ ?_
 rotate_left
 ·intro w'
  go_simp
  with_reducible rfl
 rotate_left
 ·simp only [Act.put, zpA, zpO, zpS, i64_w, i32_w]
  rfl
 refine pure_ (i := 10) (N := some 61) (v := ?_) (a' := ?_) (bm 13 0x7ff) rfl rfl (any_of HT_.out (by kernel_rfl)) (fun _ _ _ h => h) (Or.inl ⟨by rfl, ?_⟩) ?_ ?_
 rotate_left
 ·intro w'
  go_simp
  with_reducible rfl
 rotate_left
 ·simp only [Act.put, zpA, zpO, zpS, i64_w, i32_w]
  rfl
 refine pure_ (i := 11) (N := some 12) (v := ?_) (a' := ?_) (bm 13 0xfff) rfl rfl (any_of HT_.out (by kernel_rfl)) (fun _ _ _ h => h) (Or.inl ⟨by rfl, ?_⟩) ?_ ?_
 rotate_left
 ·intro w'
  go_simp
  with_reducible rfl
 rotate_left
 ·simp only [Act.put, zpA, zpO, zpS, i64_w, i32_w]
  rfl
 refine pure_ (i := 12) (N := some 13) (v := ?_) (a' := ?_) (bm 13 0x1fff) rfl rfl (any_of HT_.out (by kernel_rfl)) (fun _ _ _ h => h) (Or.inl ⟨by rfl, ?_⟩) ?_ ?_
 rotate_left
 ·intro w'
  go_simp
  with_reducible rfl
 rotate_left
 ·simp only [Act.put, zpA, zpO, zpS, i64_w, i32_w]
  rfl
 refine done_ (done_of HT_.out (by kernel_rfl)) ?_
 try go_wp2
 have n0_ := Aside0.mk (blk_drew BK534.out)
 have n1_ := Aside0.mk (below_drew1 HB.out)
 clear BK534
 clear HB
 have BK534 := n0_
 have HB := n1_
 clear n0_ n1_
 refine start_ (n := 15) (S := fun w' => w'.cell? ⟨gb534, 0, none⟩ = some (.int .u8 (Int.tmod a0_0 2)) ∧ w'.cell? ⟨gb534, 1, none⟩ = some (.int .u32 a0_1) ∧ w'.cell? ⟨gb534, 2, none⟩ = some (.int .u32 a0_2) ∧ w'.cell? ⟨gb534, 3, none⟩ = some (.int .u16 a0_3) ∧ w'.cell? ⟨gb534, 4, none⟩ = some (.int .u16 a0_4) ∧ w'.cell? ⟨gb534, 5, none⟩ = some (.int .u8 a0_5) ∧ w'.cell? ⟨gb534, 6, none⟩ = some (.int .u8 a0_6) ∧ w'.cell? ⟨gb534, 7, none⟩ = some (.string a0_7) ∧ w'.cell? ⟨gb534, 8, none⟩ = some (.bool a0_8) ∧ w'.cell? ⟨gb534, 9, none⟩ = some (.int .u32 a0_9) ∧ w'.cell? ⟨gb534, 10, none⟩ = some (.int .u32 a0_10)) (ds := []) (bm 15 0x0) (by kernel_rfl) rfl rfl ⟨(blk_cell BK534.out 0).trans rfl, (blk_cell BK534.out 1).trans rfl, (blk_cell BK534.out 2).trans rfl, (blk_cell BK534.out 3).trans rfl, (blk_cell BK534.out 4).trans rfl, (blk_cell BK534.out 5).trans rfl, (blk_cell BK534.out 6).trans rfl, (blk_cell BK534.out 7).trans rfl, (blk_cell BK534.out 8).trans rfl, (blk_cell BK534.out 9).trans rfl, (blk_cell BK534.out 10).trans rfl⟩ (fun hHeld => ?_); refine with_tabW weighbridgelaw09_PacketParts.tab11 weighbridgelaw09_PacketParts.bits11 (fun HT_ HW_ => ?_)
 generalize w91.drew = w92 at BK534 HB hHeld ⊢
 refine pure_ (i := 0) (N := some 63) (v := ?_) (a' := ?_) (bm 15 0x1) rfl rfl (any_of HT_.out (by kernel_rfl)) (fun _ _ _ h => h) (Or.inl ⟨by rfl, ?_⟩) ?_ ?_
 rotate_left
 ·intro w'
  go_simp
  with_reducible rfl
 rotate_left
 ·simp only [Act.put, zpA, zpO, zpS, i64_w, i32_w]
  rfl
 refine pure_ (i := 1) (N := some 64) (v := ?_) (a' := ?_) (bm 15 0x3) rfl rfl (any_of HT_.out (by kernel_rfl)) (fun _ _ _ h => h) (Or.inl ⟨by rfl, ?_⟩) ?_ ?_
 rotate_left
 ·intro w'
  go_simp
  with_reducible rfl
 rotate_left
 ·simp only [Act.put, zpA, zpO, zpS, i64_w, i32_w]
  rfl
 refine pure_ (i := 2) (N := some 65) (v := ?_) (a' := ?_) (bm 15 0x7) rfl rfl (any_of HT_.out (by kernel_rfl)) (fun _ _ _ h => h) (Or.inl ⟨by rfl, ?_⟩) ?_ ?_
 rotate_left
 ·intro w'
  go_simp
  with_reducible rfl
 rotate_left
 ·simp only [Act.put, zpA, zpO, zpS, i64_w, i32_w]
  rfl
 refine pure_ (i := 4) (N := some 67) (v := ?_) (a' := ?_) (bm 15 0x17) rfl rfl (any_of HT_.out (by kernel_rfl)) (fun _ _ _ h => h) (Or.inl ⟨by rfl, ?_⟩) ?_ ?_
 rotate_left
 ·intro w'
  go_simp
  with_reducible rfl
 rotate_left
 ·simp only [Act.put, zpA, zpO, zpS, i64_w, i32_w]
  rfl
 refine pure_ (i := 7) (N := some 70) (v := ?_) (a' := ?_) (bm 15 0x97) rfl rfl (any_of HT_.out (by kernel_rfl)) (fun _ _ _ h => h) (Or.inl ⟨by rfl, ?_⟩) ?_ ?_
 rotate_left
 ·intro w'
  go_simp
  with_reducible rfl
 rotate_left
 ·simp only [Act.put, zpA, zpO, zpS, i64_w, i32_w]
  rfl
 refine pure_ (i := 8) (N := some 71) (v := ?_) (a' := ?_) (bm 15 0x197) rfl rfl (any_of HT_.out (by kernel_rfl)) (fun _ _ _ h => h) (Or.inl ⟨by rfl, ?_⟩) ?_ ?_
 rotate_left
 ·intro w'
  go_simp
  with_reducible rfl
 rotate_left
 ·simp only [Act.put, zpA, zpO, zpS, i64_w, i32_w]
  rfl
 refine take_ (i := 3) (N := some 66) (v := ?_) (a' := ?_) (bm 15 0x19f) rfl rfl (take_ofW HT_.out HW_.out (by kernel_rfl)) (fun _ _ _ h => h) (Or.inl ⟨by rfl, ?_⟩) hHeld ?_ ?_
 rotate_left
 ·rintro w' ⟨s0, s1, s2, s3, s4, s5, s6, s7, s8, s9, s10⟩
  go_simp
  with_reducible rfl
 rotate_left
 ·simp only [Act.put, zpA, zpO, zpS, i64_w, i32_w]
  rfl
 refine take_ (i := 5) (N := some 68) (v := ?_) (a' := ?_) (bm 15 0x1bf) rfl rfl (take_ofW HT_.out HW_.out (by kernel_rfl)) (fun _ _ _ h => h) (Or.inl ⟨by rfl, ?_⟩) hHeld ?_ ?_
 rotate_left
 ·rintro w' ⟨s0, s1, s2, s3, s4, s5, s6, s7, s8, s9, s10⟩
  go_simp
  with_reducible rfl
 rotate_left
 ·simp only [Act.put, zpA, zpO, zpS, i64_w, i32_w]
  rfl
 refine pure_ (i := 6) (N := some 69) (v := ?_) (a' := ?_) (bm 15 0x1ff) rfl rfl (any_of HT_.out (by kernel_rfl)) (fun _ _ _ h => h) (Or.inl ⟨by rfl, ?_⟩) ?_ ?_
 rotate_left
 ·intro w'
  go_simp
  with_reducible rfl
 rotate_left
 ·simp only [Act.put, zpA, zpO, zpS, i64_w, i32_w]
  rfl
 refine one_ (i := 9) (N := some 72) (bm 15 0x3ff) rfl rfl (one_of HT_.out (by kernel_rfl)) (by decide) (fun K hK => ?_)
 refine goes_ Try.func15 (by kernel_rfl) rfl #[.agg #[.int .i64 0, .int .i64 0, .int .i64 0, .int .i64 0, .int .i64 5, .int .i64 (wrap64 (a2)), .int .u32 a0_1, .int .u32 a0_2, .string (⟨#[]⟩ : ByteArray)], .string (t536.extract 20 t536.size)] (by rfl) rfl rfl (by (try simp only [List.map_toArray, List.map_cons, List.map_nil]); first | done | rfl | (simp only [Int.toNat_natCast]; first | done | rfl) | (rw [Int.toNat_natCast, ByteArray.extract_zero_size]; rfl) | (simp only [List.length_drop, List.length_take]; rfl)) ?_
 with_reducible refine (weighbridgeref04_Build.calls 0 0 0 0 5 (wrap64 (a2)) a0_1 a0_2 (⟨#[]⟩ : ByteArray) (t536.extract 20 t536.size) t541 t542 _ A13.out).mono ?_
 rintro e w93 ⟨rfl, hb⟩
 refine ⟨_, rfl, ?_⟩
 have n0_ := Aside0.mk (blk_below (g := gb534) (o := .cells #[.int .u8 (Int.tmod a0_0 2), .int .u32 a0_1, .int .u32 a0_2, .int .u16 a0_3, .int .u16 a0_4, .int .u8 a0_5, .int .u8 a0_6, .string a0_7, .bool a0_8, .int .u32 a0_9, .int .u32 a0_10] 25 (0, 0)) (BD BK534) hb)
 have n1_ := Aside0.mk (below_step (BW HB) hb)
 clear BK534
 clear HB
 have BK534 := n0_
 have HB := n1_
 clear n0_ n1_
 (try clear hb)
 (try clear hb2)
 (try clear hk)
 (try clear hi)
 refine hK.out _ _ ⟨(blk_cell BK534.out 0).trans rfl, (blk_cell BK534.out 1).trans rfl, (blk_cell BK534.out 2).trans rfl, (blk_cell BK534.out 3).trans rfl, (blk_cell BK534.out 4).trans rfl, (blk_cell BK534.out 5).trans rfl, (blk_cell BK534.out 6).trans rfl, (blk_cell BK534.out 7).trans rfl, (blk_cell BK534.out 8).trans rfl, (blk_cell BK534.out 9).trans rfl, (blk_cell BK534.out 10).trans rfl⟩ (fun hHeld => ?_)
 clear hK K
 refine norm_ (a' := ?_) ?_ ?_
 rotate_left
 ·show Act.put _ (some 72) _ = _
  simp only [Act.put, zpA, zpO, zpS, i64_w, i32_w]
  rfl
 refine pure_ (i := 10) (N := some 62) (v := ?_) (a' := ?_) (bm 15 0x7ff) rfl rfl (any_of HT_.out (by kernel_rfl)) (fun _ _ _ h => h) (Or.inl ⟨by rfl, ?_⟩) ?_ ?_
 rotate_left
 ·intro w'
  go_simp
  with_reducible rfl
 rotate_left
 ·simp only [Act.put, zpA, zpO, zpS, i64_w, i32_w]
  rfl
 refine pure_ (i := 11) (N := some 73) (v := ?_) (a' := ?_) (bm 15 0xfff) rfl rfl (any_of HT_.out (by kernel_rfl)) (fun _ _ _ h => h) (Or.inl ⟨by rfl, ?_⟩) ?_ ?_
 rotate_left
 ·intro w'
  go_simp
  with_reducible rfl
 rotate_left
 ·simp only [Act.put, zpA, zpO, zpS, i64_w, i32_w]
  rfl
 refine pure_ (i := 12) (N := some 74) (v := ?_) (a' := ?_) (bm 15 0x1fff) rfl rfl (any_of HT_.out (by kernel_rfl)) (fun _ _ _ h => h) (Or.inl ⟨by rfl, ?_⟩) ?_ ?_
 rotate_left
 ·intro w'
  go_simp
  with_reducible rfl
 rotate_left
 ·simp only [Act.put, zpA, zpO, zpS, i64_w, i32_w]
  rfl
 refine pure_ (i := 13) (N := some 14) (v := ?_) (a' := ?_) (bm 15 0x3fff) rfl rfl (any_of HT_.out (by kernel_rfl)) (fun _ _ _ h => h) (Or.inl ⟨by rfl, ?_⟩) ?_ ?_
 rotate_left
 ·intro w'
  go_simp
  with_reducible rfl
 rotate_left
 ·simp only [Act.put, zpA, zpO, zpS, i64_w, i32_w]
  rfl
 refine pure_ (i := 14) (N := some 15) (v := ?_) (a' := ?_) (bm 15 0x7fff) rfl rfl (any_of HT_.out (by kernel_rfl)) (fun _ _ _ h => h) (Or.inl ⟨by rfl, ?_⟩) ?_ ?_
 rotate_left
 ·intro w'
  go_simp
  with_reducible rfl
 rotate_left
 ·simp only [Act.put, zpA, zpO, zpS, i64_w, i32_w]
  rfl
 refine done_ (done_of HT_.out (by kernel_rfl)) ?_
 try go_wp2_with (first | ((with_reducible refine gate_callee (f := 12) rfl ?_); refine goesL_ (some 77) rfl rfl Try.func12 (by kernel_rfl) rfl #[.string t537] rfl AG ?_; (with_reducible refine (packet_Classify.calls t537 t543 t544 t545 t546 t547 t548 t549 t550 t551 t552 t553 t554 t555 t556 t557 _ A14.out).mono ?_); rintro e w94 ⟨rfl, hb⟩; (try clear A14); refine ⟨_, rfl, ?_⟩; have n0_ := Aside0.mk (blk_below (g := gb534) (o := .cells #[.int .u8 (Int.tmod a0_0 2), .int .u32 a0_1, .int .u32 a0_2, .int .u16 a0_3, .int .u16 a0_4, .int .u8 a0_5, .int .u8 a0_6, .string a0_7, .bool a0_8, .int .u32 a0_9, .int .u32 a0_10] 25 (0, 0)) (BD BK534) hb); have n1_ := Aside0.mk (below_step (BW HB) hb); clear BK534; clear HB; have BK534 := n0_; have HB := n1_; clear n0_ n1_; (try clear hb); (try clear hb2); (try clear hk); (try clear hi)) | ((with_reducible refine gate_dst (N := 16) rfl ?_); refine box_event ?hg (N := 16) ?hd (cs := #[.int .i64 0, .int .i64 0, .int .i64 0, .int .i64 0, .int .u32 0, .int .u32 0, .int .i64 0, .int .i64 0, .int .i64 0, .int .i64 0, .int .u32 0, .int .u32 0, .int .i64 0, .int .i64 0]) (t := 32) ?hr ?_; (case hd => rfl); (case hg => rfl); (case hr => first | (go_simp; done) | (go_simp; rfl)); intro gb558 hg w95 hbox hb; have n0_ := Aside0.mk (blk_below (g := gb534) (o := .cells #[.int .u8 (Int.tmod a0_0 2), .int .u32 a0_1, .int .u32 a0_2, .int .u16 a0_3, .int .u16 a0_4, .int .u8 a0_5, .int .u8 a0_6, .string a0_7, .bool a0_8, .int .u32 a0_9, .int .u32 a0_10] 25 (0, 0)) (BD BK534) hb); have n1_ := Aside0.mk (below_step (BW HB) hb); have n2_ := Aside0.mk (hbox); have n3_ := Aside0.mk ((by rw [hg]; exact (below_size (BW HB)) : w.heap.size ≤ gb558)); have n4_ := Aside0.mk ((by rw [hg]; exact (below_size (BW HB)) : w.heap.size ≤ gb558)); have n5_ := Aside0.mk ((by rw [hg]; exact Nat.ne_of_lt (blk_lt (g := gb534) (o := .cells #[.int .u8 (Int.tmod a0_0 2), .int .u32 a0_1, .int .u32 a0_2, .int .u16 a0_3, .int .u16 a0_4, .int .u8 a0_5, .int .u8 a0_6, .string a0_7, .bool a0_8, .int .u32 a0_9, .int .u32 a0_10] 25 (0, 0)) (BD BK534)) : gb534 ≠ gb558)); have n6_ := Aside0.mk ((by rw [hg]; exact Nat.ne_of_gt (blk_lt (g := gb534) (o := .cells #[.int .u8 (Int.tmod a0_0 2), .int .u32 a0_1, .int .u32 a0_2, .int .u16 a0_3, .int .u16 a0_4, .int .u8 a0_5, .int .u8 a0_6, .string a0_7, .bool a0_8, .int .u32 a0_9, .int .u32 a0_10] 25 (0, 0)) (BD BK534)) : gb558 ≠ gb534)); clear BK534; clear HB; have BK534 := n0_; have HB := n1_; have BK558 := n2_; have GW558 := n3_; have GE558 := n4_; have NB534_558 := n5_; have NB558_534 := n6_; clear n0_ n1_ n2_ n3_ n4_ n5_ n6_; clear hb hbox hg; have hnb96 := NB558_534.out; have hnc96 := NB534_558.out; obtain ⟨hcz97_0, hcz97_1, hcz97_2, hcz97_3, hcz97_4, hcz97_5, hcz97_6, hcz97_7, hcz97_8, hcz97_9, hcz97_10, hcz97_11, hcz97_12, hcz97_13, hfz97_0, hfz97_1, hfz97_2, hfz97_3, hfz97_4, hfz97_5, hfz97_6, hfz97_7, hfz97_8, hfz97_9, hfz97_10, hfz97_11, hfz97_12, hfz97_13⟩ := blk14 BK558.out) | ((with_reducible refine gate_callee (f := 12) rfl ?_); refine goesL_ (some 82) rfl rfl Try.func12 (by kernel_rfl) rfl #[.string t539] rfl AG ?_; (with_reducible refine (packet_Classify.calls t539 t559 t560 t561 t562 t563 t564 t565 t566 t567 t568 t569 t570 t571 t572 t573 _ A15.out).mono ?_); rintro e w98 ⟨rfl, hb⟩; (try clear A15); refine ⟨_, rfl, ?_⟩; have n0_ := Aside0.mk (blk_below (g := gb534) (o := .cells #[.int .u8 (Int.tmod a0_0 2), .int .u32 a0_1, .int .u32 a0_2, .int .u16 a0_3, .int .u16 a0_4, .int .u8 a0_5, .int .u8 a0_6, .string a0_7, .bool a0_8, .int .u32 a0_9, .int .u32 a0_10] 25 (0, 0)) (BE BK534) hb); have n1_ := Aside0.mk (blk_below (g := gb558) (o := .cells #[.int .i64 t543, .int .i64 t544, .int .i64 t545, .int .i64 t546, .int .u32 t547, .int .u32 t548, .int .i64 t549, .int .i64 t550, .int .i64 t551, .int .i64 t552, .int .u32 t553, .int .u32 t554, .int .i64 t555, .int .i64 t556] 32 (0, 0)) (BE BK558) hb); have n2_ := Aside0.mk (below_step (BW HB) hb); clear BK534; clear BK558; clear HB; have BK534 := n0_; have BK558 := n1_; have HB := n2_; clear n0_ n1_ n2_; (try clear hb); (try clear hb2); (try clear hk); (try clear hi)) | ((with_reducible refine gate_dst (N := 18) rfl ?_); refine box_event ?hg (N := 18) ?hd (cs := #[.int .i64 0, .int .i64 0, .int .i64 0, .int .i64 0, .int .u32 0, .int .u32 0, .int .i64 0, .int .i64 0, .int .i64 0, .int .i64 0, .int .u32 0, .int .u32 0, .int .i64 0, .int .i64 0]) (t := 32) ?hr ?_; (case hd => rfl); (case hg => rfl); (case hr => first | (go_simp; done) | (go_simp; rfl)); intro gb574 hg w99 hbox hb; have n0_ := Aside0.mk (blk_below (g := gb534) (o := .cells #[.int .u8 (Int.tmod a0_0 2), .int .u32 a0_1, .int .u32 a0_2, .int .u16 a0_3, .int .u16 a0_4, .int .u8 a0_5, .int .u8 a0_6, .string a0_7, .bool a0_8, .int .u32 a0_9, .int .u32 a0_10] 25 (0, 0)) (BD BK534) hb); have n1_ := Aside0.mk (blk_below (g := gb558) (o := .cells #[.int .i64 t543, .int .i64 t544, .int .i64 t545, .int .i64 t546, .int .u32 t547, .int .u32 t548, .int .i64 t549, .int .i64 t550, .int .i64 t551, .int .i64 t552, .int .u32 t553, .int .u32 t554, .int .i64 t555, .int .i64 t556] 32 (0, 0)) (BD BK558) hb); have n2_ := Aside0.mk (below_step (BW HB) hb); have n3_ := Aside0.mk (hbox); have n4_ := Aside0.mk ((by rw [hg]; exact (below_size (BW HB)) : w.heap.size ≤ gb574)); have n5_ := Aside0.mk ((by rw [hg]; exact (below_size (BW HB)) : w.heap.size ≤ gb574)); have n6_ := Aside0.mk ((by rw [hg]; exact Nat.ne_of_lt (blk_lt (g := gb534) (o := .cells #[.int .u8 (Int.tmod a0_0 2), .int .u32 a0_1, .int .u32 a0_2, .int .u16 a0_3, .int .u16 a0_4, .int .u8 a0_5, .int .u8 a0_6, .string a0_7, .bool a0_8, .int .u32 a0_9, .int .u32 a0_10] 25 (0, 0)) (BD BK534)) : gb534 ≠ gb574)); have n7_ := Aside0.mk ((by rw [hg]; exact Nat.ne_of_gt (blk_lt (g := gb534) (o := .cells #[.int .u8 (Int.tmod a0_0 2), .int .u32 a0_1, .int .u32 a0_2, .int .u16 a0_3, .int .u16 a0_4, .int .u8 a0_5, .int .u8 a0_6, .string a0_7, .bool a0_8, .int .u32 a0_9, .int .u32 a0_10] 25 (0, 0)) (BD BK534)) : gb574 ≠ gb534)); have n8_ := Aside0.mk ((by rw [hg]; exact Nat.ne_of_lt (blk_lt (g := gb558) (o := .cells #[.int .i64 t543, .int .i64 t544, .int .i64 t545, .int .i64 t546, .int .u32 t547, .int .u32 t548, .int .i64 t549, .int .i64 t550, .int .i64 t551, .int .i64 t552, .int .u32 t553, .int .u32 t554, .int .i64 t555, .int .i64 t556] 32 (0, 0)) (BD BK558)) : gb558 ≠ gb574)); have n9_ := Aside0.mk ((by rw [hg]; exact Nat.ne_of_gt (blk_lt (g := gb558) (o := .cells #[.int .i64 t543, .int .i64 t544, .int .i64 t545, .int .i64 t546, .int .u32 t547, .int .u32 t548, .int .i64 t549, .int .i64 t550, .int .i64 t551, .int .i64 t552, .int .u32 t553, .int .u32 t554, .int .i64 t555, .int .i64 t556] 32 (0, 0)) (BD BK558)) : gb574 ≠ gb558)); clear BK534; clear BK558; clear HB; have BK534 := n0_; have BK558 := n1_; have HB := n2_; have BK574 := n3_; have GW574 := n4_; have GE574 := n5_; have NB534_574 := n6_; have NB574_534 := n7_; have NB558_574 := n8_; have NB574_558 := n9_; clear n0_ n1_ n2_ n3_ n4_ n5_ n6_ n7_ n8_ n9_; clear hb hbox hg; have hnb100 := NB574_534.out; have hnc100 := NB534_574.out; have hnb101 := NB574_558.out; have hnc101 := NB558_574.out; obtain ⟨hcz102_0, hcz102_1, hcz102_2, hcz102_3, hcz102_4, hcz102_5, hcz102_6, hcz102_7, hcz102_8, hcz102_9, hcz102_10, hcz102_11, hcz102_12, hcz102_13, hfz102_0, hfz102_1, hfz102_2, hfz102_3, hfz102_4, hfz102_5, hfz102_6, hfz102_7, hfz102_8, hfz102_9, hfz102_10, hfz102_11, hfz102_12, hfz102_13⟩ := blk14 BK574.out) | ((with_reducible refine gate_callee (f := 12) rfl ?_); refine goesL_ (some 87) rfl rfl Try.func12 (by kernel_rfl) rfl #[.string t541] rfl AG ?_; (with_reducible refine (packet_Classify.calls t541 t575 t576 t577 t578 t579 t580 t581 t582 t583 t584 t585 t586 t587 t588 t589 _ A16.out).mono ?_); rintro e w103 ⟨rfl, hb⟩; (try clear A16); refine ⟨_, rfl, ?_⟩; have n0_ := Aside0.mk (blk_below (g := gb534) (o := .cells #[.int .u8 (Int.tmod a0_0 2), .int .u32 a0_1, .int .u32 a0_2, .int .u16 a0_3, .int .u16 a0_4, .int .u8 a0_5, .int .u8 a0_6, .string a0_7, .bool a0_8, .int .u32 a0_9, .int .u32 a0_10] 25 (0, 0)) (BE BK534) hb); have n1_ := Aside0.mk (blk_below (g := gb558) (o := .cells #[.int .i64 t543, .int .i64 t544, .int .i64 t545, .int .i64 t546, .int .u32 t547, .int .u32 t548, .int .i64 t549, .int .i64 t550, .int .i64 t551, .int .i64 t552, .int .u32 t553, .int .u32 t554, .int .i64 t555, .int .i64 t556] 32 (0, 0)) (BE BK558) hb); have n2_ := Aside0.mk (blk_below (g := gb574) (o := .cells #[.int .i64 t559, .int .i64 t560, .int .i64 t561, .int .i64 t562, .int .u32 t563, .int .u32 t564, .int .i64 t565, .int .i64 t566, .int .i64 t567, .int .i64 t568, .int .u32 t569, .int .u32 t570, .int .i64 t571, .int .i64 t572] 32 (0, 0)) (BE BK574) hb); have n3_ := Aside0.mk (below_step (BW HB) hb); clear BK534; clear BK558; clear BK574; clear HB; have BK534 := n0_; have BK558 := n1_; have BK574 := n2_; have HB := n3_; clear n0_ n1_ n2_ n3_; (try clear hb); (try clear hb2); (try clear hk); (try clear hi)) | ((with_reducible refine gate_dst (N := 20) rfl ?_); refine box_event ?hg (N := 20) ?hd (cs := #[.int .i64 0, .int .i64 0, .int .i64 0, .int .i64 0, .int .u32 0, .int .u32 0, .int .i64 0, .int .i64 0, .int .i64 0, .int .i64 0, .int .u32 0, .int .u32 0, .int .i64 0, .int .i64 0]) (t := 32) ?hr ?_; (case hd => rfl); (case hg => rfl); (case hr => first | (go_simp; done) | (go_simp; rfl)); intro gb590 hg w104 hbox hb; have n0_ := Aside0.mk (blk_below (g := gb534) (o := .cells #[.int .u8 (Int.tmod a0_0 2), .int .u32 a0_1, .int .u32 a0_2, .int .u16 a0_3, .int .u16 a0_4, .int .u8 a0_5, .int .u8 a0_6, .string a0_7, .bool a0_8, .int .u32 a0_9, .int .u32 a0_10] 25 (0, 0)) (BD BK534) hb); have n1_ := Aside0.mk (blk_below (g := gb558) (o := .cells #[.int .i64 t543, .int .i64 t544, .int .i64 t545, .int .i64 t546, .int .u32 t547, .int .u32 t548, .int .i64 t549, .int .i64 t550, .int .i64 t551, .int .i64 t552, .int .u32 t553, .int .u32 t554, .int .i64 t555, .int .i64 t556] 32 (0, 0)) (BD BK558) hb); have n2_ := Aside0.mk (blk_below (g := gb574) (o := .cells #[.int .i64 t559, .int .i64 t560, .int .i64 t561, .int .i64 t562, .int .u32 t563, .int .u32 t564, .int .i64 t565, .int .i64 t566, .int .i64 t567, .int .i64 t568, .int .u32 t569, .int .u32 t570, .int .i64 t571, .int .i64 t572] 32 (0, 0)) (BD BK574) hb); have n3_ := Aside0.mk (below_step (BW HB) hb); have n4_ := Aside0.mk (hbox); have n5_ := Aside0.mk ((by rw [hg]; exact (below_size (BW HB)) : w.heap.size ≤ gb590)); have n6_ := Aside0.mk ((by rw [hg]; exact (below_size (BW HB)) : w.heap.size ≤ gb590)); have n7_ := Aside0.mk ((by rw [hg]; exact Nat.ne_of_lt (blk_lt (g := gb534) (o := .cells #[.int .u8 (Int.tmod a0_0 2), .int .u32 a0_1, .int .u32 a0_2, .int .u16 a0_3, .int .u16 a0_4, .int .u8 a0_5, .int .u8 a0_6, .string a0_7, .bool a0_8, .int .u32 a0_9, .int .u32 a0_10] 25 (0, 0)) (BD BK534)) : gb534 ≠ gb590)); have n8_ := Aside0.mk ((by rw [hg]; exact Nat.ne_of_gt (blk_lt (g := gb534) (o := .cells #[.int .u8 (Int.tmod a0_0 2), .int .u32 a0_1, .int .u32 a0_2, .int .u16 a0_3, .int .u16 a0_4, .int .u8 a0_5, .int .u8 a0_6, .string a0_7, .bool a0_8, .int .u32 a0_9, .int .u32 a0_10] 25 (0, 0)) (BD BK534)) : gb590 ≠ gb534)); have n9_ := Aside0.mk ((by rw [hg]; exact Nat.ne_of_lt (blk_lt (g := gb558) (o := .cells #[.int .i64 t543, .int .i64 t544, .int .i64 t545, .int .i64 t546, .int .u32 t547, .int .u32 t548, .int .i64 t549, .int .i64 t550, .int .i64 t551, .int .i64 t552, .int .u32 t553, .int .u32 t554, .int .i64 t555, .int .i64 t556] 32 (0, 0)) (BD BK558)) : gb558 ≠ gb590)); have n10_ := Aside0.mk ((by rw [hg]; exact Nat.ne_of_gt (blk_lt (g := gb558) (o := .cells #[.int .i64 t543, .int .i64 t544, .int .i64 t545, .int .i64 t546, .int .u32 t547, .int .u32 t548, .int .i64 t549, .int .i64 t550, .int .i64 t551, .int .i64 t552, .int .u32 t553, .int .u32 t554, .int .i64 t555, .int .i64 t556] 32 (0, 0)) (BD BK558)) : gb590 ≠ gb558)); have n11_ := Aside0.mk ((by rw [hg]; exact Nat.ne_of_lt (blk_lt (g := gb574) (o := .cells #[.int .i64 t559, .int .i64 t560, .int .i64 t561, .int .i64 t562, .int .u32 t563, .int .u32 t564, .int .i64 t565, .int .i64 t566, .int .i64 t567, .int .i64 t568, .int .u32 t569, .int .u32 t570, .int .i64 t571, .int .i64 t572] 32 (0, 0)) (BD BK574)) : gb574 ≠ gb590)); have n12_ := Aside0.mk ((by rw [hg]; exact Nat.ne_of_gt (blk_lt (g := gb574) (o := .cells #[.int .i64 t559, .int .i64 t560, .int .i64 t561, .int .i64 t562, .int .u32 t563, .int .u32 t564, .int .i64 t565, .int .i64 t566, .int .i64 t567, .int .i64 t568, .int .u32 t569, .int .u32 t570, .int .i64 t571, .int .i64 t572] 32 (0, 0)) (BD BK574)) : gb590 ≠ gb574)); clear BK534; clear BK558; clear BK574; clear HB; have BK534 := n0_; have BK558 := n1_; have BK574 := n2_; have HB := n3_; have BK590 := n4_; have GW590 := n5_; have GE590 := n6_; have NB534_590 := n7_; have NB590_534 := n8_; have NB558_590 := n9_; have NB590_558 := n10_; have NB574_590 := n11_; have NB590_574 := n12_; clear n0_ n1_ n2_ n3_ n4_ n5_ n6_ n7_ n8_ n9_ n10_ n11_ n12_; clear hb hbox hg; have hnb105 := NB590_534.out; have hnc105 := NB534_590.out; have hnb106 := NB590_558.out; have hnc106 := NB558_590.out; have hnb107 := NB590_574.out; have hnc107 := NB574_590.out; obtain ⟨hcz108_0, hcz108_1, hcz108_2, hcz108_3, hcz108_4, hcz108_5, hcz108_6, hcz108_7, hcz108_8, hcz108_9, hcz108_10, hcz108_11, hcz108_12, hcz108_13, hfz108_0, hfz108_1, hfz108_2, hfz108_3, hfz108_4, hfz108_5, hfz108_6, hfz108_7, hfz108_8, hfz108_9, hfz108_10, hfz108_11, hfz108_12, hfz108_13⟩ := blk14 BK590.out))
 go_ret
 exact ⟨RT, BW HB⟩

/-- THE ONE PURE STATEMENT of weighbridgelaw09_PacketParts: yours. -/
def weighbridgelaw09_PacketParts.Pure : Prop := ∀ (a0_0 : Int) (a0_1 : Int) (a0_2 : Int) (a0_3 : Int) (a0_4 : Int) (a0_5 : Int) (a0_6 : Int) (a0_7 : ByteArray) (a0_8 : Bool) (a0_9 : Int) (a0_10 : Int) (a1 : Int) (a2 : Int), (Lit.int .u8 a0_0).wf = true → (Lit.int .u32 a0_1).wf = true → (Lit.int .u32 a0_2).wf = true → (Lit.int .u16 a0_3).wf = true → (Lit.int .u16 a0_4).wf = true → (Lit.int .u8 a0_5).wf = true → (Lit.int .u8 a0_6).wf = true → a0_7.size ≤ 140737488351232 → (Lit.int .u32 a0_9).wf = true → (Lit.int .u32 a0_10).wf = true → (Lit.int .u16 a1).wf = true → (Lit.int .u8 a2).wf = true → weighbridgelaw09_PacketParts.f a0_0 a0_1 a0_2 a0_3 a0_4 a0_5 a0_6 a0_7 a0_8 a0_9 a0_10 a1 a2 = some true
theorem weighbridgelaw09_PacketParts.walk (P : weighbridgelaw09_PacketParts.Pure) (a0_0 : Int) (a0_1 : Int) (a0_2 : Int) (a0_3 : Int) (a0_4 : Int) (a0_5 : Int) (a0_6 : Int) (a0_7 : ByteArray) (a0_8 : Bool) (a0_9 : Int) (a0_10 : Int) (a1 : Int) (a2 : Int) (w : World) (w0_0 : (Lit.int .u8 a0_0).wf = true) (w0_1 : (Lit.int .u32 a0_1).wf = true) (w0_2 : (Lit.int .u32 a0_2).wf = true) (w0_3 : (Lit.int .u16 a0_3).wf = true) (w0_4 : (Lit.int .u16 a0_4).wf = true) (w0_5 : (Lit.int .u8 a0_5).wf = true) (w0_6 : (Lit.int .u8 a0_6).wf = true) (w0_7 : a0_7.size ≤ 140737488351232) (w0_9 : (Lit.int .u32 a0_9).wf = true) (w0_10 : (Lit.int .u32 a0_10).wf = true) (w1 : (Lit.int .u16 a1).wf = true) (w2 : (Lit.int .u8 a2).wf = true) :
  Calls Try.prog 5 #[.agg #[.int .u8 a0_0, .int .u32 a0_1, .int .u32 a0_2, .int .u16 a0_3, .int .u16 a0_4, .int .u8 a0_5, .int .u8 a0_6, .string a0_7, .bool a0_8, .int .u32 a0_9, .int .u32 a0_10], .int .u16 a1, .int .u8 a2] w fun e w' => e = .returned (.bool true) ∧ Below w.heap.size w w' := by
 have h := P a0_0 a0_1 a0_2 a0_3 a0_4 a0_5 a0_6 a0_7 a0_8 a0_9 a0_10 a1 a2 w0_0 w0_1 w0_2 w0_3 w0_4 w0_5 w0_6 w0_7 w0_9 w0_10 w1 w2
 refine (weighbridgelaw09_PacketParts.calls a0_0 a0_1 a0_2 a0_3 a0_4 a0_5 a0_6 a0_7 a0_8 a0_9 a0_10 a1 a2 true w h rfl).mono ?_
 rintro e w' ⟨rfl, hd⟩
 exact ⟨rfl, hd⟩
end Go.Proofs.Ytkganedlhcepfaa.Pr
