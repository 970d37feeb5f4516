-- Written by a program of the session (wip/tools) out of the translation, over the kit's print; with pieces of the session's own.
import Derived.Test.YthdaldicdhpnoaaPr0
import Derived.Test.YthdaldicdhpnoaaPr7
import Derived.Test.YthdaldicdhpnoaaPr9
import Derived.Test.YthdaldicdhpnoaaPr10
namespace Go.Proofs.Ythdaldicdhpnoaa.Pr
open Go.RowKit Go.Proofs.YthdaldicdhpnoaaW.PrintWords Go.Proofs.YthdaldicdhpnoaaW.PrintLast Go.Proofs.YthdaldicdhpnoaaW.PrintMore
attribute [local go_sem] max2_int min2_int max_two min_two max_three min_three max_four min_four   -- for this text's walks alone
set_option linter.unusedVariables false
set_option linter.unusedSimpArgs false
open Go.Proofs.Ythdaldicdhpnoaa.Sp
/-! ### weighbridgeref04_Parse_p: function 20 -/
def weighbridgeref04_Parse_p.f (a0 : ByteArray) : Option (Int × Int × Int × Int × Int × Int × Int × Int × ByteArray × ByteArray × Int) := (weighbridgeref04_Sizes.f a0).bind fun bt486 => (if bt486.2.2 = 0 then (if 0 ≤ bt486.1 then (if bt486.1 ≤ (a0.size : Int) then ((weighbridgeref03_Sum.f (a0.extract 0 (bt486.1 : Int).toNat)).bind fun t489 => (if t489 = 65535 then (if 20 ≤ bt486.1 then ((weighbridgeref04_OptsRight.f (a0.extract 20 (bt486.1 : Int).toNat)).bind fun t490 => (if t490 = true then ((weighbridgeref04_num.f a0 6 2).bind fun t491 => ((weighbridgeref04_num.f a0 1 1).bind fun t492 => ((weighbridgeref04_num.f a0 4 2).bind fun t493 => ((weighbridgeref04_num.f a0 8 1).bind fun t494 => ((weighbridgeref04_num.f a0 9 1).bind fun t495 => ((weighbridgeref04_num.f a0 12 4).bind fun t496 => ((weighbridgeref04_num.f a0 16 4).bind fun t497 => (if bt486.1 ≤ bt486.2.1 then (if bt486.2.1 ≤ (a0.size : Int) then (some (t492, t493, wrap64 (Int.tdiv t491 8192), Int.tmod t491 8192, t494, t495, (t496) % 4294967296, (t497) % 4294967296, a0.extract 20 (bt486.1 : Int).toNat, a0.extract (bt486.1 : Int).toNat (bt486.2.1 : Int).toNat, 0)) else (none)) else (none))))))))) else (some (0, 0, 0, 0, 0, 0, 0, 0, (⟨#[]⟩ : ByteArray), (⟨#[]⟩ : ByteArray), 6)))) else (none)) else (some (0, 0, 0, 0, 0, 0, 0, 0, (⟨#[]⟩ : ByteArray), (⟨#[]⟩ : ByteArray), 7)))) else (none)) else (none)) else (some (0, 0, 0, 0, 0, 0, 0, 0, (⟨#[]⟩ : ByteArray), (⟨#[]⟩ : ByteArray), bt486.2.2)))
def weighbridgeref04_Parse_p.T10 : Bool × List (List Nat × List Nat) := (true, [([], []), ([0], [0]), ([], []), ([2, 1], [2]), ([], []), ([4], [4]), ([], []), ([6], [6]), ([], []), ([8, 3], [8]), ([], []), ([10, 9], [10]), ([], []), ([12, 11], [12]), ([13], [13]), ([], []), ([15, 13], [15]), ([16], [16]), ([], []), ([], []), ([18, 19], [18, 19]), ([1, 3, 5, 7, 9, 11, 14, 17, 20], [1, 3, 5, 7, 9, 11, 14, 17, 20]), ([], []), ([22, 21, 16, 0, 1, 2, 3, 4, 5, 6, 7, 8, 9, 10, 11, 12, 13, 14, 15, 16, 17, 18, 19, 20, 21, 22], [21, 22])])
def weighbridgeref04_Parse_p.B10 : List Nat := [0, 1, 0, 7, 0, 16, 0, 64, 0, 271, 0, 1807, 0, 7951, 16143, 0, 48911, 114447, 0, 0, 786432, 2097151, 0, 8388607]
theorem weighbridgeref04_Parse_p.tab10 : rtab .any (opsOf Try.f20 10) = weighbridgeref04_Parse_p.T10 := by kernel_rfl
theorem weighbridgeref04_Parse_p.bits10 : waitsOk weighbridgeref04_Parse_p.T10.2 weighbridgeref04_Parse_p.B10 = true := by kernel_rfl
def weighbridgeref04_Parse_p.T11 : Bool × List (List Nat × List Nat) := (true, [([], []), ([], []), ([], []), ([], []), ([1, 2, 3], [1, 2, 3]), ([0, 0], [0]), ([4, 5, 0, 1, 2, 3, 4, 5], [4]), ([6, 0, 1, 2, 3, 4, 5, 6], [])])
def weighbridgeref04_Parse_p.B11 : List Nat := [0, 0, 0, 0, 14, 1, 63, 127]
theorem weighbridgeref04_Parse_p.tab11 : rtab .any (opsOf Try.f20 11) = weighbridgeref04_Parse_p.T11 := by kernel_rfl
theorem weighbridgeref04_Parse_p.bits11 : waitsOk weighbridgeref04_Parse_p.T11.2 weighbridgeref04_Parse_p.B11 = true := by kernel_rfl
set_option maxHeartbeats 8000000 in
set_option maxRecDepth 100000 in
theorem weighbridgeref04_Parse_p.calls (a0 : ByteArray) (r1 : Int) (r2 : Int) (r3 : Int) (r4 : Int) (r5 : Int) (r6 : Int) (r7 : Int) (r8 : Int) (r9 : ByteArray) (r10 : ByteArray) (r11 : Int) (w : World) (h : weighbridgeref04_Parse_p.f a0 = some (r1, r2, r3, r4, r5, r6, r7, r8, r9, r10, r11)) :
    Calls Try.prog 20 #[.string a0] w fun e w' => e = .returned (.tuple #[.agg #[.int .i64 r1, .int .i64 r2, .int .i64 r3, .int .i64 r4, .int .i64 r5, .int .i64 r6, .int .u32 r7, .int .u32 r8, .string r9], .string r10, .int .i64 r11]) ∧ Below w.heap.size w w' := by
  have hu31 := Try.underlying31
  have HB := Aside0.mk (Below.refl w.heap.size w)
  have H : ((weighbridgeref04_Sizes.f a0).bind fun bt486 => (if bt486.2.2 = 0 then (if 0 ≤ bt486.1 then (if bt486.1 ≤ (a0.size : Int) then ((weighbridgeref03_Sum.f (a0.extract 0 (bt486.1 : Int).toNat)).bind fun t489 => (if t489 = 65535 then (if 20 ≤ bt486.1 then ((weighbridgeref04_OptsRight.f (a0.extract 20 (bt486.1 : Int).toNat)).bind fun t490 => (if t490 = true then ((weighbridgeref04_num.f a0 6 2).bind fun t491 => ((weighbridgeref04_num.f a0 1 1).bind fun t492 => ((weighbridgeref04_num.f a0 4 2).bind fun t493 => ((weighbridgeref04_num.f a0 8 1).bind fun t494 => ((weighbridgeref04_num.f a0 9 1).bind fun t495 => ((weighbridgeref04_num.f a0 12 4).bind fun t496 => ((weighbridgeref04_num.f a0 16 4).bind fun t497 => (if bt486.1 ≤ bt486.2.1 then (if bt486.2.1 ≤ (a0.size : Int) then (some (t492, t493, wrap64 (Int.tdiv t491 8192), Int.tmod t491 8192, t494, t495, (t496) % 4294967296, (t497) % 4294967296, a0.extract 20 (bt486.1 : Int).toNat, a0.extract (bt486.1 : Int).toNat (bt486.2.1 : Int).toNat, 0)) else (none)) else (none))))))))) else (some (0, 0, 0, 0, 0, 0, 0, 0, (⟨#[]⟩ : ByteArray), (⟨#[]⟩ : ByteArray), 6)))) else (none)) else (some (0, 0, 0, 0, 0, 0, 0, 0, (⟨#[]⟩ : ByteArray), (⟨#[]⟩ : ByteArray), 7)))) else (none)) else (none)) else (some (0, 0, 0, 0, 0, 0, 0, 0, (⟨#[]⟩ : ByteArray), (⟨#[]⟩ : ByteArray), bt486.2.2)))) = some (r1, r2, r3, r4, r5, r6, r7, r8, r9, r10, r11) := h
  clear h
  replace H := Option.bind_eq_some_iff.mp H
  obtain ⟨⟨t486, t487, t488⟩, A20, H⟩ := H
  replace H : (if t488 = 0 then (if 0 ≤ t486 then (if t486 ≤ (a0.size : Int) then ((weighbridgeref03_Sum.f (a0.extract 0 (t486 : Int).toNat)).bind fun t489 => (if t489 = 65535 then (if 20 ≤ t486 then ((weighbridgeref04_OptsRight.f (a0.extract 20 (t486 : Int).toNat)).bind fun t490 => (if t490 = true then ((weighbridgeref04_num.f a0 6 2).bind fun t491 => ((weighbridgeref04_num.f a0 1 1).bind fun t492 => ((weighbridgeref04_num.f a0 4 2).bind fun t493 => ((weighbridgeref04_num.f a0 8 1).bind fun t494 => ((weighbridgeref04_num.f a0 9 1).bind fun t495 => ((weighbridgeref04_num.f a0 12 4).bind fun t496 => ((weighbridgeref04_num.f a0 16 4).bind fun t497 => (if t486 ≤ t487 then (if t487 ≤ (a0.size : Int) then (some (t492, t493, wrap64 (Int.tdiv t491 8192), Int.tmod t491 8192, t494, t495, (t496) % 4294967296, (t497) % 4294967296, a0.extract 20 (t486 : Int).toNat, a0.extract (t486 : Int).toNat (t487 : Int).toNat, 0)) else (none)) else (none))))))))) else (some (0, 0, 0, 0, 0, 0, 0, 0, (⟨#[]⟩ : ByteArray), (⟨#[]⟩ : ByteArray), 6)))) else (none)) else (some (0, 0, 0, 0, 0, 0, 0, 0, (⟨#[]⟩ : ByteArray), (⟨#[]⟩ : ByteArray), 7)))) else (none)) else (none)) else (some (0, 0, 0, 0, 0, 0, 0, 0, (⟨#[]⟩ : ByteArray), (⟨#[]⟩ : ByteArray), t488))) = some (r1, r2, r3, r4, r5, r6, r7, r8, r9, r10, r11) := H
  have A2 := Aside0.mk A20
  clear A20
  by_cases c3 : t488 = 0
  · rw [if_pos c3] at H
    have c3b0 : (t488 == 0) = true := beq_iff_eq.mpr c3
    have c3b1 : (t488 != 0) = false := bne_eq_false_iff_eq.mpr c3
    clear c3
    by_cases c4 : 0 ≤ t486
    · rw [if_pos c4] at H
      have c4b0 := eq_true c4
      have c4b1 : decide (0 ≤ t486) = true := decide_eq_true c4
      clear c4
      by_cases c5 : t486 ≤ (a0.size : Int)
      · rw [if_pos c5] at H
        have c5b0 := eq_true c5
        have c5b1 : decide (t486 ≤ (a0.size : Int)) = true := decide_eq_true c5
        clear c5
        replace H := Option.bind_eq_some_iff.mp H
        obtain ⟨t489, A60, H⟩ := H
        replace H : (if t489 = 65535 then (if 20 ≤ t486 then ((weighbridgeref04_OptsRight.f (a0.extract 20 (t486 : Int).toNat)).bind fun t490 => (if t490 = true then ((weighbridgeref04_num.f a0 6 2).bind fun t491 => ((weighbridgeref04_num.f a0 1 1).bind fun t492 => ((weighbridgeref04_num.f a0 4 2).bind fun t493 => ((weighbridgeref04_num.f a0 8 1).bind fun t494 => ((weighbridgeref04_num.f a0 9 1).bind fun t495 => ((weighbridgeref04_num.f a0 12 4).bind fun t496 => ((weighbridgeref04_num.f a0 16 4).bind fun t497 => (if t486 ≤ t487 then (if t487 ≤ (a0.size : Int) then (some (t492, t493, wrap64 (Int.tdiv t491 8192), Int.tmod t491 8192, t494, t495, (t496) % 4294967296, (t497) % 4294967296, a0.extract 20 (t486 : Int).toNat, a0.extract (t486 : Int).toNat (t487 : Int).toNat, 0)) else (none)) else (none))))))))) else (some (0, 0, 0, 0, 0, 0, 0, 0, (⟨#[]⟩ : ByteArray), (⟨#[]⟩ : ByteArray), 6)))) else (none)) else (some (0, 0, 0, 0, 0, 0, 0, 0, (⟨#[]⟩ : ByteArray), (⟨#[]⟩ : ByteArray), 7))) = some (r1, r2, r3, r4, r5, r6, r7, r8, r9, r10, r11) := H
        have A6 := Aside0.mk A60
        clear A60
        by_cases c7 : t489 = 65535
        · rw [if_pos c7] at H
          have c7b0 : (t489 == 65535) = true := beq_iff_eq.mpr c7
          have c7b1 : (t489 != 65535) = false := bne_eq_false_iff_eq.mpr c7
          clear c7
          by_cases c8 : 20 ≤ t486
          · rw [if_pos c8] at H
            have c8b0 := eq_true c8
            have c8b1 : decide (20 ≤ t486) = true := decide_eq_true c8
            clear c8
            have c9b0 := eq_true (of_decide_eq_true (by first | (with_reducible assumption) | assumption) : t486 ≤ (a0.size : Int))
            replace H := Option.bind_eq_some_iff.mp H
            obtain ⟨t490, A100, H⟩ := H
            replace H : (if t490 = true then ((weighbridgeref04_num.f a0 6 2).bind fun t491 => ((weighbridgeref04_num.f a0 1 1).bind fun t492 => ((weighbridgeref04_num.f a0 4 2).bind fun t493 => ((weighbridgeref04_num.f a0 8 1).bind fun t494 => ((weighbridgeref04_num.f a0 9 1).bind fun t495 => ((weighbridgeref04_num.f a0 12 4).bind fun t496 => ((weighbridgeref04_num.f a0 16 4).bind fun t497 => (if t486 ≤ t487 then (if t487 ≤ (a0.size : Int) then (some (t492, t493, wrap64 (Int.tdiv t491 8192), Int.tmod t491 8192, t494, t495, (t496) % 4294967296, (t497) % 4294967296, a0.extract 20 (t486 : Int).toNat, a0.extract (t486 : Int).toNat (t487 : Int).toNat, 0)) else (none)) else (none))))))))) else (some (0, 0, 0, 0, 0, 0, 0, 0, (⟨#[]⟩ : ByteArray), (⟨#[]⟩ : ByteArray), 6))) = some (r1, r2, r3, r4, r5, r6, r7, r8, r9, r10, r11) := H
            have A10 := Aside0.mk A100
            clear A100
            by_cases c11 : t490 = true
            · subst c11
              have H1 : ((weighbridgeref04_num.f a0 6 2).bind fun t491 => ((weighbridgeref04_num.f a0 1 1).bind fun t492 => ((weighbridgeref04_num.f a0 4 2).bind fun t493 => ((weighbridgeref04_num.f a0 8 1).bind fun t494 => ((weighbridgeref04_num.f a0 9 1).bind fun t495 => ((weighbridgeref04_num.f a0 12 4).bind fun t496 => ((weighbridgeref04_num.f a0 16 4).bind fun t497 => (if t486 ≤ t487 then (if t487 ≤ (a0.size : Int) then (some (t492, t493, wrap64 (Int.tdiv t491 8192), Int.tmod t491 8192, t494, t495, (t496) % 4294967296, (t497) % 4294967296, a0.extract 20 (t486 : Int).toNat, a0.extract (t486 : Int).toNat (t487 : Int).toNat, 0)) else (none)) else (none))))))))) = some (r1, r2, r3, r4, r5, r6, r7, r8, r9, r10, r11) := by first | (rw [if_pos rfl] at H; exact H) | (rw [if_pos trivial] at H; exact H)
              clear H
              have H := H1
              clear H1
              replace H := Option.bind_eq_some_iff.mp H
              obtain ⟨t491, A120, H⟩ := H
              replace H : ((weighbridgeref04_num.f a0 1 1).bind fun t492 => ((weighbridgeref04_num.f a0 4 2).bind fun t493 => ((weighbridgeref04_num.f a0 8 1).bind fun t494 => ((weighbridgeref04_num.f a0 9 1).bind fun t495 => ((weighbridgeref04_num.f a0 12 4).bind fun t496 => ((weighbridgeref04_num.f a0 16 4).bind fun t497 => (if t486 ≤ t487 then (if t487 ≤ (a0.size : Int) then (some (t492, t493, wrap64 (Int.tdiv t491 8192), Int.tmod t491 8192, t494, t495, (t496) % 4294967296, (t497) % 4294967296, a0.extract 20 (t486 : Int).toNat, a0.extract (t486 : Int).toNat (t487 : Int).toNat, 0)) else (none)) else (none)))))))) = some (r1, r2, r3, r4, r5, r6, r7, r8, r9, r10, r11) := H
              have A12 := Aside0.mk A120
              clear A120
              replace H := Option.bind_eq_some_iff.mp H
              obtain ⟨t492, A130, H⟩ := H
              replace H : ((weighbridgeref04_num.f a0 4 2).bind fun t493 => ((weighbridgeref04_num.f a0 8 1).bind fun t494 => ((weighbridgeref04_num.f a0 9 1).bind fun t495 => ((weighbridgeref04_num.f a0 12 4).bind fun t496 => ((weighbridgeref04_num.f a0 16 4).bind fun t497 => (if t486 ≤ t487 then (if t487 ≤ (a0.size : Int) then (some (t492, t493, wrap64 (Int.tdiv t491 8192), Int.tmod t491 8192, t494, t495, (t496) % 4294967296, (t497) % 4294967296, a0.extract 20 (t486 : Int).toNat, a0.extract (t486 : Int).toNat (t487 : Int).toNat, 0)) else (none)) else (none))))))) = some (r1, r2, r3, r4, r5, r6, r7, r8, r9, r10, r11) := H
              have A13 := Aside0.mk A130
              clear A130
              replace H := Option.bind_eq_some_iff.mp H
              obtain ⟨t493, A140, H⟩ := H
              replace H : ((weighbridgeref04_num.f a0 8 1).bind fun t494 => ((weighbridgeref04_num.f a0 9 1).bind fun t495 => ((weighbridgeref04_num.f a0 12 4).bind fun t496 => ((weighbridgeref04_num.f a0 16 4).bind fun t497 => (if t486 ≤ t487 then (if t487 ≤ (a0.size : Int) then (some (t492, t493, wrap64 (Int.tdiv t491 8192), Int.tmod t491 8192, t494, t495, (t496) % 4294967296, (t497) % 4294967296, a0.extract 20 (t486 : Int).toNat, a0.extract (t486 : Int).toNat (t487 : Int).toNat, 0)) else (none)) else (none)))))) = some (r1, r2, r3, r4, r5, r6, r7, r8, r9, r10, r11) := H
              have A14 := Aside0.mk A140
              clear A140
              replace H := Option.bind_eq_some_iff.mp H
              obtain ⟨t494, A150, H⟩ := H
              replace H : ((weighbridgeref04_num.f a0 9 1).bind fun t495 => ((weighbridgeref04_num.f a0 12 4).bind fun t496 => ((weighbridgeref04_num.f a0 16 4).bind fun t497 => (if t486 ≤ t487 then (if t487 ≤ (a0.size : Int) then (some (t492, t493, wrap64 (Int.tdiv t491 8192), Int.tmod t491 8192, t494, t495, (t496) % 4294967296, (t497) % 4294967296, a0.extract 20 (t486 : Int).toNat, a0.extract (t486 : Int).toNat (t487 : Int).toNat, 0)) else (none)) else (none))))) = some (r1, r2, r3, r4, r5, r6, r7, r8, r9, r10, r11) := H
              have A15 := Aside0.mk A150
              clear A150
              replace H := Option.bind_eq_some_iff.mp H
              obtain ⟨t495, A160, H⟩ := H
              replace H : ((weighbridgeref04_num.f a0 12 4).bind fun t496 => ((weighbridgeref04_num.f a0 16 4).bind fun t497 => (if t486 ≤ t487 then (if t487 ≤ (a0.size : Int) then (some (t492, t493, wrap64 (Int.tdiv t491 8192), Int.tmod t491 8192, t494, t495, (t496) % 4294967296, (t497) % 4294967296, a0.extract 20 (t486 : Int).toNat, a0.extract (t486 : Int).toNat (t487 : Int).toNat, 0)) else (none)) else (none)))) = some (r1, r2, r3, r4, r5, r6, r7, r8, r9, r10, r11) := H
              have A16 := Aside0.mk A160
              clear A160
              replace H := Option.bind_eq_some_iff.mp H
              obtain ⟨t496, A170, H⟩ := H
              replace H : ((weighbridgeref04_num.f a0 16 4).bind fun t497 => (if t486 ≤ t487 then (if t487 ≤ (a0.size : Int) then (some (t492, t493, wrap64 (Int.tdiv t491 8192), Int.tmod t491 8192, t494, t495, (t496) % 4294967296, (t497) % 4294967296, a0.extract 20 (t486 : Int).toNat, a0.extract (t486 : Int).toNat (t487 : Int).toNat, 0)) else (none)) else (none))) = some (r1, r2, r3, r4, r5, r6, r7, r8, r9, r10, r11) := H
              have A17 := Aside0.mk A170
              clear A170
              replace H := Option.bind_eq_some_iff.mp H
              obtain ⟨t497, A180, H⟩ := H
              replace H : (if t486 ≤ t487 then (if t487 ≤ (a0.size : Int) then (some (t492, t493, wrap64 (Int.tdiv t491 8192), Int.tmod t491 8192, t494, t495, (t496) % 4294967296, (t497) % 4294967296, a0.extract 20 (t486 : Int).toNat, a0.extract (t486 : Int).toNat (t487 : Int).toNat, 0)) else (none)) else (none)) = some (r1, r2, r3, r4, r5, r6, r7, r8, r9, r10, r11) := H
              have A18 := Aside0.mk A180
              clear A180
              have c19b0 := eq_true (of_decide_eq_true (by first | (with_reducible assumption) | assumption) : 20 ≤ t486)
              have c20b0 := eq_true (of_decide_eq_true (by first | (with_reducible assumption) | assumption) : t486 ≤ (a0.size : Int))
              have c21b0 := eq_true (of_decide_eq_true (by first | (with_reducible assumption) | assumption) : 0 ≤ t486)
              by_cases c22 : t486 ≤ t487
              · rw [if_pos c22] at H
                have c22b0 := eq_true c22
                have c22b1 : decide (t486 ≤ t487) = true := decide_eq_true c22
                clear c22
                by_cases c23 : t487 ≤ (a0.size : Int)
                · rw [if_pos c23] at H
                  have c23b0 := eq_true c23
                  have c23b1 : decide (t487 ≤ (a0.size : Int)) = true := decide_eq_true c23
                  clear c23
                  simp only [Option.some.injEq, Prod.mk.injEq] at H
                  obtain ⟨rfl, rfl, rfl, rfl, rfl, rfl, rfl, rfl, rfl, rfl, rfl⟩ := H
                  go_enter Try.func20, Try.ntmps20
                  try go_wp2_with (first | ((with_reducible refine gate_dst (N := 2) rfl ?_); refine box_event ?hg (N := 2) ?hd (cs := #[.int .i64 0, .int .i64 0, .int .i64 0, .int .i64 0, .int .i64 0, .int .i64 0, .int .u32 0, .int .u32 0, .string (⟨#[]⟩ : ByteArray)]) (t := 31) ?hr ?_; (case hd => rfl); (case hg => rfl); (case hr => first | (go_simp; done) | (go_simp; rfl)); intro gb485 hg w24 hbox hb; have n0_ := Aside0.mk (below_step (by repeat (first | (with_reducible first | exact HB.out | apply below_alloc | apply pw_below_drewN | apply below_drew1) | exact HB.out)) hb); have n1_ := Aside0.mk (hbox); have n2_ := Aside0.mk ((by rw [hg]; exact (below_size (by repeat (first | (with_reducible first | exact HB.out | apply below_alloc | apply pw_below_drewN | apply below_drew1) | exact HB.out))) : w.heap.size ≤ gb485)); have n3_ := Aside0.mk ((by rw [hg]; exact (below_size (by repeat (first | (with_reducible first | exact HB.out | apply below_alloc | apply pw_below_drewN | apply below_drew1) | exact HB.out))) : w.heap.size ≤ gb485)); clear HB; have HB := n0_; have BK485 := n1_; have GW485 := n2_; have GE485 := n3_; clear n0_ n1_ n2_ n3_; clear hb hbox hg) | ((with_reducible refine gate_callee (f := 22) rfl ?_); refine goesL_ (some 13) rfl rfl Try.func22 (by kernel_rfl) rfl #[.string a0] rfl (by (try simp only [List.map_toArray, List.map_cons, List.map_nil]); first | done | rfl | (simp only [List.length_drop, List.length_take]; rfl)) ?_; (with_reducible refine (weighbridgeref04_Sizes.calls a0 t486 t487 t488 _ A2.out).mono ?_); rintro e w' ⟨rfl, ⟨nd, rfl⟩⟩; refine ⟨_, rfl, ?_⟩; (try (rw [drewN_self w24]; generalize hq_ : World.drewN w24 _ = w24; have n0_ : Aside0 (w24.heap[gb485]? = some (.cells #[.int .i64 0, .int .i64 0, .int .i64 0, .int .i64 0, .int .i64 0, .int .i64 0, .int .u32 0, .int .u32 0, .string (⟨#[]⟩ : ByteArray)] 31 (0, 0))) := ⟨by rw [← hq_]; exact (by (with_reducible repeat (first | refine blk_drewN ?_ _ | refine blk_drew ?_ | refine blk_alloc ?_ _)); exact BK485.out)⟩; have n1_ : Aside0 (Below w.heap.size w w24) := ⟨by rw [← hq_]; exact (by repeat (first | (with_reducible first | exact HB.out | apply below_alloc | apply pw_below_drewN | apply below_drew1 | refine below_set ?_ GE485.out) | exact HB.out))⟩; clear BK485 HB hq_; have BK485 := n0_; have HB := n1_; clear n0_ n1_))) | ((with_reducible refine gate_callee (f := 34) rfl ?_); refine goesL_ (some 24) rfl rfl Try.func34 (by kernel_rfl) rfl #[.string (a0.extract 0 (t486 : Int).toNat)] rfl (by (try simp only [List.map_toArray, List.map_cons, List.map_nil]); first | done | rfl | (simp only [List.length_drop, List.length_take]; rfl)) ?_; (with_reducible refine (weighbridgeref03_Sum.calls (a0.extract 0 (t486 : Int).toNat) t489 _ A6.out).mono ?_); rintro e w25 ⟨rfl, hb⟩; (try clear A6); refine ⟨_, rfl, ?_⟩; have n0_ := Aside0.mk (blk_below (g := gb485) (o := .cells #[.int .i64 0, .int .i64 0, .int .i64 0, .int .i64 0, .int .i64 0, .int .i64 0, .int .u32 0, .int .u32 0, .string (⟨#[]⟩ : ByteArray)] 31 (0, 0)) (by (with_reducible repeat (first | refine blk_drewN ?_ _ | refine blk_drew ?_ | refine blk_alloc ?_ _)); exact BK485.out) hb); have n1_ := Aside0.mk (below_step (by repeat (first | (with_reducible first | exact HB.out | apply below_alloc | apply pw_below_drewN | apply below_drew1 | refine below_set ?_ GE485.out) | exact HB.out)) hb); clear BK485; clear HB; have BK485 := n0_; have HB := n1_; clear n0_ n1_; (try clear hb); (try clear hb2); (try clear hk); (try clear hi)) | ((with_reducible refine gate_callee (f := 17) rfl ?_); refine goesL_ (some 30) rfl rfl Try.func17 (by kernel_rfl) rfl #[.string (a0.extract 20 (t486 : Int).toNat)] rfl (by (try simp only [List.map_toArray, List.map_cons, List.map_nil]); first | done | rfl | (simp only [List.length_drop, List.length_take]; rfl)) ?_; (with_reducible refine (weighbridgeref04_OptsRight.calls (a0.extract 20 (t486 : Int).toNat) true _ A10.out).mono ?_); rintro e w' ⟨rfl, ⟨nd, rfl⟩⟩; refine ⟨_, rfl, ?_⟩; (try (rw [drewN_self w25]; generalize hq_ : World.drewN w25 _ = w25; have n0_ : Aside0 (w25.heap[gb485]? = some (.cells #[.int .i64 0, .int .i64 0, .int .i64 0, .int .i64 0, .int .i64 0, .int .i64 0, .int .u32 0, .int .u32 0, .string (⟨#[]⟩ : ByteArray)] 31 (0, 0))) := ⟨by rw [← hq_]; exact (by (with_reducible repeat (first | refine blk_drewN ?_ _ | refine blk_drew ?_ | refine blk_alloc ?_ _)); exact BK485.out)⟩; have n1_ : Aside0 (Below w.heap.size w w25) := ⟨by rw [← hq_]; exact (by repeat (first | (with_reducible first | exact HB.out | apply below_alloc | apply pw_below_drewN | apply below_drew1 | refine below_set ?_ GE485.out) | exact HB.out))⟩; clear BK485 HB hq_; have BK485 := n0_; have HB := n1_; clear n0_ n1_))) | ((with_reducible refine gate_callee (f := 35) rfl ?_); refine goesL_ (some 35) rfl rfl Try.func35 (by kernel_rfl) rfl #[.string a0, .int .i64 6, .int .i64 2] rfl (by (try simp only [List.map_toArray, List.map_cons, List.map_nil]); first | done | rfl | (simp only [List.length_drop, List.length_take]; rfl)) ?_; (with_reducible refine (weighbridgeref04_num.calls a0 6 2 t491 _ A12.out).mono ?_); rintro e w' ⟨rfl, ⟨nd, rfl⟩⟩; refine ⟨_, rfl, ?_⟩; (try (rw [drewN_self w25]; generalize hq_ : World.drewN w25 _ = w25; have n0_ : Aside0 (w25.heap[gb485]? = some (.cells #[.int .i64 0, .int .i64 0, .int .i64 0, .int .i64 0, .int .i64 0, .int .i64 0, .int .u32 0, .int .u32 0, .string (⟨#[]⟩ : ByteArray)] 31 (0, 0))) := ⟨by rw [← hq_]; exact (by (with_reducible repeat (first | refine blk_drewN ?_ _ | refine blk_drew ?_ | refine blk_alloc ?_ _)); exact BK485.out)⟩; have n1_ : Aside0 (Below w.heap.size w w25) := ⟨by rw [← hq_]; exact (by repeat (first | (with_reducible first | exact HB.out | apply below_alloc | apply pw_below_drewN | apply below_drew1 | refine below_set ?_ GE485.out) | exact HB.out))⟩; clear BK485 HB hq_; have BK485 := n0_; have HB := n1_; clear n0_ n1_))))
                  have n0_ := Aside0.mk (blk_drew BK485.out)
                  have n1_ := Aside0.mk (below_drew1 HB.out)
                  clear BK485
                  clear HB
                  have BK485 := n0_
                  have HB := n1_
                  clear n0_ n1_
                  refine start_ (n := 24) (S := fun w' => True) (ds := []) #[false, false, false, false, false, false, false, false, false, false, false, false, false, false, false, false, false, false, false, false, false, false, false, false] (by kernel_rfl) rfl rfl trivial (fun hHeld => ?_); refine with_tabW weighbridgeref04_Parse_p.tab10 weighbridgeref04_Parse_p.bits10 (fun HT_ HW_ => ?_)
                  generalize w25.drew = w26 at BK485 HB hHeld ⊢
                  refine pure_ (i := 0) (N := some 36) (v := ?_) (a' := ?_) #[true, false, false, false, false, false, false, false, false, false, false, false, false, false, false, false, false, false, false, false, false, false, false, false] rfl rfl (any_of HT_.out (by kernel_rfl)) (fun _ _ _ h => h) (Or.inl ⟨by rfl, ?_⟩) ?_ ?_
                  rotate_left
                  · intro w'
                    go_simp
                    with_reducible rfl
                  rotate_left
                  · simp only [Act.put, List.setIfInBounds_toArray, List.set_cons_zero, List.set_cons_succ, i64_w, i32_w]
                    rfl
                  refine pure_ (i := 2) (N := some 38) (v := ?_) (a' := ?_) #[true, false, true, false, false, false, false, false, false, false, false, false, false, false, false, false, false, false, false, false, false, false, false, false] rfl rfl (any_of HT_.out (by kernel_rfl)) (fun _ _ _ h => h) (Or.inl ⟨by rfl, ?_⟩) ?_ ?_
                  rotate_left
                  · intro w'
                    go_simp
                    with_reducible rfl
                  rotate_left
                  · simp only [Act.put, List.setIfInBounds_toArray, List.set_cons_zero, List.set_cons_succ, i64_w, i32_w]
                    rfl
                  refine pure_ (i := 4) (N := some 40) (v := ?_) (a' := ?_) #[true, false, true, false, true, false, false, false, false, false, false, false, false, false, false, false, false, false, false, false, false, false, false, false] rfl rfl (any_of HT_.out (by kernel_rfl)) (fun _ _ _ h => h) (Or.inl ⟨by rfl, ?_⟩) ?_ ?_
                  rotate_left
                  · intro w'
                    go_simp
                    with_reducible rfl
                  rotate_left
                  · simp only [Act.put, List.setIfInBounds_toArray, List.set_cons_zero, List.set_cons_succ, i64_w, i32_w]
                    rfl
                  refine pure_ (i := 5) (N := some 41) (v := ?_) (a' := ?_) #[true, false, true, false, true, true, false, false, false, false, false, false, false, false, false, false, false, false, false, false, false, false, false, false] rfl rfl (any_of HT_.out (by kernel_rfl)) (fun _ _ _ h => h) (Or.inl ⟨by rfl, ?_⟩) ?_ ?_
                  rotate_left
                  · intro w'
                    go_simp
                    with_reducible rfl
                  rotate_left
                  · simp only [Act.put, List.setIfInBounds_toArray, List.set_cons_zero, List.set_cons_succ, i64_w, i32_w]
                    rfl
                  refine pure_ (i := 6) (N := some 42) (v := ?_) (a' := ?_) #[true, false, true, false, true, true, true, false, false, false, false, false, false, false, false, false, false, false, false, false, false, false, false, false] rfl rfl (any_of HT_.out (by kernel_rfl)) (fun _ _ _ h => h) (Or.inl ⟨by rfl, ?_⟩) ?_ ?_
                  rotate_left
                  · intro w'
                    go_simp
                    with_reducible rfl
                  rotate_left
                  · simp only [Act.put, List.setIfInBounds_toArray, List.set_cons_zero, List.set_cons_succ, i64_w, i32_w]
                    rfl
                  refine pure_ (i := 7) (N := some 43) (v := ?_) (a' := ?_) #[true, false, true, false, true, true, true, true, false, false, false, false, false, false, false, false, false, false, false, false, false, false, false, false] rfl rfl (any_of HT_.out (by kernel_rfl)) (fun _ _ _ h => h) (Or.inl ⟨by rfl, ?_⟩) ?_ ?_
                  rotate_left
                  · intro w'
                    go_simp
                    with_reducible rfl
                  rotate_left
                  · simp only [Act.put, List.setIfInBounds_toArray, List.set_cons_zero, List.set_cons_succ, i64_w, i32_w]
                    rfl
                  refine pure_ (i := 8) (N := some 44) (v := ?_) (a' := ?_) #[true, false, true, false, true, true, true, true, true, false, false, false, false, false, false, false, false, false, false, false, false, false, false, false] rfl rfl (any_of HT_.out (by kernel_rfl)) (fun _ _ _ h => h) (Or.inl ⟨by rfl, ?_⟩) ?_ ?_
                  rotate_left
                  · intro w'
                    go_simp
                    with_reducible rfl
                  rotate_left
                  · simp only [Act.put, List.setIfInBounds_toArray, List.set_cons_zero, List.set_cons_succ, i64_w, i32_w]
                    rfl
                  refine pure_ (i := 10) (N := some 46) (v := ?_) (a' := ?_) #[true, false, true, false, true, true, true, true, true, false, true, false, false, false, false, false, false, false, false, false, false, false, false, false] rfl rfl (any_of HT_.out (by kernel_rfl)) (fun _ _ _ h => h) (Or.inl ⟨by rfl, ?_⟩) ?_ ?_
                  rotate_left
                  · intro w'
                    go_simp
                    with_reducible rfl
                  rotate_left
                  · simp only [Act.put, List.setIfInBounds_toArray, List.set_cons_zero, List.set_cons_succ, i64_w, i32_w]
                    rfl
                  refine pure_ (i := 12) (N := some 48) (v := ?_) (a' := ?_) #[true, false, true, false, true, true, true, true, true, false, true, false, true, false, false, false, false, false, false, false, false, false, false, false] rfl rfl (any_of HT_.out (by kernel_rfl)) (fun _ _ _ h => h) (Or.inl ⟨by rfl, ?_⟩) ?_ ?_
                  rotate_left
                  · intro w'
                    go_simp
                    with_reducible rfl
                  rotate_left
                  · simp only [Act.put, List.setIfInBounds_toArray, List.set_cons_zero, List.set_cons_succ, i64_w, i32_w]
                    rfl
                  refine pure_ (i := 15) (N := some 51) (v := ?_) (a' := ?_) #[true, false, true, false, true, true, true, true, true, false, true, false, true, false, false, true, false, false, false, false, false, false, false, false] rfl rfl (any_of HT_.out (by kernel_rfl)) (fun _ _ _ h => h) (Or.inl ⟨by rfl, ?_⟩) ?_ ?_
                  rotate_left
                  · intro w'
                    go_simp
                    with_reducible rfl
                  rotate_left
                  · simp only [Act.put, List.setIfInBounds_toArray, List.set_cons_zero, List.set_cons_succ, i64_w, i32_w]
                    rfl
                  refine pure_ (i := 18) (N := some 54) (v := ?_) (a' := ?_) #[true, false, true, false, true, true, true, true, true, false, true, false, true, false, false, true, false, false, true, false, false, false, false, false] rfl rfl (any_of HT_.out (by kernel_rfl)) (fun _ _ _ h => h) (Or.inl ⟨by rfl, ?_⟩) ?_ ?_
                  rotate_left
                  · intro w'
                    go_simp
                    with_reducible rfl
                  rotate_left
                  · simp only [Act.put, List.setIfInBounds_toArray, List.set_cons_zero, List.set_cons_succ, i64_w, i32_w]
                    rfl
                  refine pure_ (i := 19) (N := some 55) (v := ?_) (a' := ?_) #[true, false, true, false, true, true, true, true, true, false, true, false, true, false, false, true, false, false, true, true, false, false, false, false] rfl rfl (any_of HT_.out (by kernel_rfl)) (fun _ _ _ h => h) (Or.inl ⟨by rfl, ?_⟩) ?_ ?_
                  rotate_left
                  · intro w'
                    go_simp
                    with_reducible rfl
                  rotate_left
                  · simp only [Act.put, List.setIfInBounds_toArray, List.set_cons_zero, List.set_cons_succ, i64_w, i32_w]
                    rfl
                  refine pure_ (i := 20) (N := some 56) (v := ?_) (a' := ?_) #[true, false, true, false, true, true, true, true, true, false, true, false, true, false, false, true, false, false, true, true, true, false, false, false] rfl rfl (any_of HT_.out (by kernel_rfl)) (fun _ _ _ h => h) (Or.inl ⟨by rfl, ?_⟩) ?_ ?_
                  rotate_left
                  · intro w'
                    go_simp
                    with_reducible rfl
                  rotate_left
                  · simp only [Act.put, List.setIfInBounds_toArray, List.set_cons_zero, List.set_cons_succ, i64_w, i32_w]
                    rfl
                  refine join_ (σ := Nat) 1 #[true, true, true, true, true, true, true, true, true, true, true, true, true, true, true, true, true, true, true, true, true, true, true, false] (fun s_ => [(37, .int .i64 t492), (39, .int .i64 t493), (45, .int .i64 t494), (47, .int .i64 t495), (49, .int .i64 t496), (52, .int .i64 t497), (10, .pointer (some ⟨s_, 0, none⟩)), (50, .int .u32 ((t496) % 4294967296)), (53, .int .u32 ((t497) % 4294967296)), (57, .agg #[.int .i64 t492, .int .i64 t493, .int .i64 (wrap64 (Int.tdiv t491 8192)), .int .i64 (Int.tmod t491 8192), .int .i64 t494, .int .i64 t495, .int .u32 ((t496) % 4294967296), .int .u32 ((t497) % 4294967296), .string (a0.extract 20 (t486 : Int).toNat)])]) (fun s_ w' => (w'.heap[gb485]? = some (.cells #[.int .i64 0, .int .i64 0, .int .i64 0, .int .i64 0, .int .i64 0, .int .i64 0, .int .u32 0, .int .u32 0, .string (⟨#[]⟩ : ByteArray)] 31 (0, 0))) ∧ (w'.heap[s_]? = some (.cells #[.int .i64 0, .int .i64 0, .int .i64 0, .int .i64 0, .int .i64 0, .int .i64 0, .int .u32 0, .int .u32 0, .string (⟨#[]⟩ : ByteArray)] 31 (0, 0))) ∧ (w.heap.size ≤ s_) ∧ (w.heap.size ≤ s_) ∧ (gb485 ≠ s_) ∧ (s_ ≠ gb485) ∧ (Below w.heap.size w w')) ?_ ?_
                  rotate_left
                  · intro hJ1_3_9_11_13_16_22
                    refine join_ (σ := Unit) 2 #[true, true, true, true, true, true, true, true, true, true, true, true, true, true, true, true, true, true, true, true, true, true, false, false] (fun s_ => [(37, .int .i64 t492), (39, .int .i64 t493), (45, .int .i64 t494), (47, .int .i64 t495), (49, .int .i64 t496), (52, .int .i64 t497), (50, .int .u32 ((t496) % 4294967296)), (53, .int .u32 ((t497) % 4294967296)), (57, .agg #[.int .i64 t492, .int .i64 t493, .int .i64 (wrap64 (Int.tdiv t491 8192)), .int .i64 (Int.tmod t491 8192), .int .i64 t494, .int .i64 t495, .int .u32 ((t496) % 4294967296), .int .u32 ((t497) % 4294967296), .string (a0.extract 20 (t486 : Int).toNat)])]) (fun s_ w' => (w'.heap[gb485]? = some (.cells #[.int .i64 0, .int .i64 0, .int .i64 0, .int .i64 0, .int .i64 0, .int .i64 0, .int .u32 0, .int .u32 0, .string (⟨#[]⟩ : ByteArray)] 31 (0, 0))) ∧ (Below w.heap.size w w')) ?_ ?_
                    rotate_left
                    · intro hJ1_3_9_11_13_16
                      refine join_ (σ := Nat) 4 #[true, true, true, true, true, true, true, true, true, true, true, true, true, true, true, true, false, false, true, true, true, false, true, false] (fun s_ => [(37, .int .i64 t492), (39, .int .i64 t493), (45, .int .i64 t494), (47, .int .i64 t495), (49, .int .i64 t496), (10, .pointer (some ⟨s_, 0, none⟩)), (50, .int .u32 ((t496) % 4294967296))]) (fun s_ w' => (w'.heap[gb485]? = some (.cells #[.int .i64 0, .int .i64 0, .int .i64 0, .int .i64 0, .int .i64 0, .int .i64 0, .int .u32 0, .int .u32 0, .string (⟨#[]⟩ : ByteArray)] 31 (0, 0))) ∧ (w'.heap[s_]? = some (.cells #[.int .i64 0, .int .i64 0, .int .i64 0, .int .i64 0, .int .i64 0, .int .i64 0, .int .u32 0, .int .u32 0, .string (⟨#[]⟩ : ByteArray)] 31 (0, 0))) ∧ (w.heap.size ≤ s_) ∧ (w.heap.size ≤ s_) ∧ (gb485 ≠ s_) ∧ (s_ ≠ gb485) ∧ (Below w.heap.size w w')) ?_ ?_
                      rotate_left
                      · intro hJ1_3_9_11_13_22
                        refine join_ (σ := Unit) 5 #[true, true, true, true, true, true, true, true, true, true, true, true, true, true, true, true, false, false, true, true, true, false, false, false] (fun s_ => [(37, .int .i64 t492), (39, .int .i64 t493), (45, .int .i64 t494), (47, .int .i64 t495), (49, .int .i64 t496), (50, .int .u32 ((t496) % 4294967296))]) (fun s_ w' => (w'.heap[gb485]? = some (.cells #[.int .i64 0, .int .i64 0, .int .i64 0, .int .i64 0, .int .i64 0, .int .i64 0, .int .u32 0, .int .u32 0, .string (⟨#[]⟩ : ByteArray)] 31 (0, 0))) ∧ (Below w.heap.size w w')) ?_ ?_
                        rotate_left
                        · intro hJ1_3_9_11_13
                          refine join_ (σ := Nat) 6 #[true, true, true, true, true, true, true, true, true, true, true, true, true, false, false, true, false, false, true, true, true, false, true, false] (fun s_ => [(37, .int .i64 t492), (39, .int .i64 t493), (45, .int .i64 t494), (47, .int .i64 t495), (10, .pointer (some ⟨s_, 0, none⟩))]) (fun s_ w' => (w'.heap[gb485]? = some (.cells #[.int .i64 0, .int .i64 0, .int .i64 0, .int .i64 0, .int .i64 0, .int .i64 0, .int .u32 0, .int .u32 0, .string (⟨#[]⟩ : ByteArray)] 31 (0, 0))) ∧ (w'.heap[s_]? = some (.cells #[.int .i64 0, .int .i64 0, .int .i64 0, .int .i64 0, .int .i64 0, .int .i64 0, .int .u32 0, .int .u32 0, .string (⟨#[]⟩ : ByteArray)] 31 (0, 0))) ∧ (w.heap.size ≤ s_) ∧ (w.heap.size ≤ s_) ∧ (gb485 ≠ s_) ∧ (s_ ≠ gb485) ∧ (Below w.heap.size w w')) ?_ ?_
                          rotate_left
                          · intro hJ1_3_9_11_22
                            refine join_ (σ := Unit) 7 #[true, true, true, true, true, true, true, true, true, true, true, true, true, false, false, true, false, false, true, true, true, false, false, false] (fun s_ => [(37, .int .i64 t492), (39, .int .i64 t493), (45, .int .i64 t494), (47, .int .i64 t495)]) (fun s_ w' => (w'.heap[gb485]? = some (.cells #[.int .i64 0, .int .i64 0, .int .i64 0, .int .i64 0, .int .i64 0, .int .i64 0, .int .u32 0, .int .u32 0, .string (⟨#[]⟩ : ByteArray)] 31 (0, 0))) ∧ (Below w.heap.size w w')) ?_ ?_
                            rotate_left
                            · intro hJ1_3_9_11
                              refine join_ (σ := Nat) 7 #[true, true, true, true, true, true, true, true, true, true, true, false, true, false, false, true, false, false, true, true, true, false, true, false] (fun s_ => [(37, .int .i64 t492), (39, .int .i64 t493), (45, .int .i64 t494), (10, .pointer (some ⟨s_, 0, none⟩))]) (fun s_ w' => (w'.heap[gb485]? = some (.cells #[.int .i64 0, .int .i64 0, .int .i64 0, .int .i64 0, .int .i64 0, .int .i64 0, .int .u32 0, .int .u32 0, .string (⟨#[]⟩ : ByteArray)] 31 (0, 0))) ∧ (w'.heap[s_]? = some (.cells #[.int .i64 0, .int .i64 0, .int .i64 0, .int .i64 0, .int .i64 0, .int .i64 0, .int .u32 0, .int .u32 0, .string (⟨#[]⟩ : ByteArray)] 31 (0, 0))) ∧ (w.heap.size ≤ s_) ∧ (w.heap.size ≤ s_) ∧ (gb485 ≠ s_) ∧ (s_ ≠ gb485) ∧ (Below w.heap.size w w')) ?_ ?_
                              rotate_left
                              · intro hJ1_3_9_22
                                refine join_ (σ := Unit) 8 #[true, true, true, true, true, true, true, true, true, true, true, false, true, false, false, true, false, false, true, true, true, false, false, false] (fun s_ => [(37, .int .i64 t492), (39, .int .i64 t493), (45, .int .i64 t494)]) (fun s_ w' => (w'.heap[gb485]? = some (.cells #[.int .i64 0, .int .i64 0, .int .i64 0, .int .i64 0, .int .i64 0, .int .i64 0, .int .u32 0, .int .u32 0, .string (⟨#[]⟩ : ByteArray)] 31 (0, 0))) ∧ (Below w.heap.size w w')) ?_ ?_
                                rotate_left
                                · intro hJ1_3_9
                                  refine join_ (σ := Nat) 8 #[true, true, true, true, true, true, true, true, true, false, true, false, true, false, false, true, false, false, true, true, true, false, true, false] (fun s_ => [(37, .int .i64 t492), (39, .int .i64 t493), (10, .pointer (some ⟨s_, 0, none⟩))]) (fun s_ w' => (w'.heap[gb485]? = some (.cells #[.int .i64 0, .int .i64 0, .int .i64 0, .int .i64 0, .int .i64 0, .int .i64 0, .int .u32 0, .int .u32 0, .string (⟨#[]⟩ : ByteArray)] 31 (0, 0))) ∧ (w'.heap[s_]? = some (.cells #[.int .i64 0, .int .i64 0, .int .i64 0, .int .i64 0, .int .i64 0, .int .i64 0, .int .u32 0, .int .u32 0, .string (⟨#[]⟩ : ByteArray)] 31 (0, 0))) ∧ (w.heap.size ≤ s_) ∧ (w.heap.size ≤ s_) ∧ (gb485 ≠ s_) ∧ (s_ ≠ gb485) ∧ (Below w.heap.size w w')) ?_ ?_
                                  rotate_left
                                  · intro hJ1_3_22
                                    refine join_ (σ := Unit) 9 #[true, true, true, true, true, true, true, true, true, false, true, false, true, false, false, true, false, false, true, true, true, false, false, false] (fun s_ => [(37, .int .i64 t492), (39, .int .i64 t493)]) (fun s_ w' => (w'.heap[gb485]? = some (.cells #[.int .i64 0, .int .i64 0, .int .i64 0, .int .i64 0, .int .i64 0, .int .i64 0, .int .u32 0, .int .u32 0, .string (⟨#[]⟩ : ByteArray)] 31 (0, 0))) ∧ (Below w.heap.size w w')) ?_ ?_
                                    rotate_left
                                    · intro hJ1_3
                                      refine join_ (σ := Nat) 9 #[true, true, true, false, true, true, true, true, true, false, true, false, true, false, false, true, false, false, true, true, true, false, true, false] (fun s_ => [(37, .int .i64 t492), (10, .pointer (some ⟨s_, 0, none⟩))]) (fun s_ w' => (w'.heap[gb485]? = some (.cells #[.int .i64 0, .int .i64 0, .int .i64 0, .int .i64 0, .int .i64 0, .int .i64 0, .int .u32 0, .int .u32 0, .string (⟨#[]⟩ : ByteArray)] 31 (0, 0))) ∧ (w'.heap[s_]? = some (.cells #[.int .i64 0, .int .i64 0, .int .i64 0, .int .i64 0, .int .i64 0, .int .i64 0, .int .u32 0, .int .u32 0, .string (⟨#[]⟩ : ByteArray)] 31 (0, 0))) ∧ (w.heap.size ≤ s_) ∧ (w.heap.size ≤ s_) ∧ (gb485 ≠ s_) ∧ (s_ ≠ gb485) ∧ (Below w.heap.size w w')) ?_ ?_
                                      rotate_left
                                      · intro hJ1_22
                                        refine join_ (σ := Unit) 10 #[true, true, true, false, true, true, true, true, true, false, true, false, true, false, false, true, false, false, true, true, true, false, false, false] (fun s_ => [(37, .int .i64 t492)]) (fun s_ w' => (w'.heap[gb485]? = some (.cells #[.int .i64 0, .int .i64 0, .int .i64 0, .int .i64 0, .int .i64 0, .int .i64 0, .int .u32 0, .int .u32 0, .string (⟨#[]⟩ : ByteArray)] 31 (0, 0))) ∧ (Below w.heap.size w w')) ?_ ?_
                                        rotate_left
                                        · intro hJ1
                                          refine join_ (σ := Nat) 10 #[true, false, true, false, true, true, true, true, true, false, true, false, true, false, false, true, false, false, true, true, true, false, true, false] (fun s_ => [(10, .pointer (some ⟨s_, 0, none⟩))]) (fun s_ w' => (w'.heap[gb485]? = some (.cells #[.int .i64 0, .int .i64 0, .int .i64 0, .int .i64 0, .int .i64 0, .int .i64 0, .int .u32 0, .int .u32 0, .string (⟨#[]⟩ : ByteArray)] 31 (0, 0))) ∧ (w'.heap[s_]? = some (.cells #[.int .i64 0, .int .i64 0, .int .i64 0, .int .i64 0, .int .i64 0, .int .i64 0, .int .u32 0, .int .u32 0, .string (⟨#[]⟩ : ByteArray)] 31 (0, 0))) ∧ (w.heap.size ≤ s_) ∧ (w.heap.size ≤ s_) ∧ (gb485 ≠ s_) ∧ (s_ ≠ gb485) ∧ (Below w.heap.size w w')) ?_ ?_
                                          rotate_left
                                          · intro hJ22
                                            refine two_ (i := 1) (j := 22) (Ni := some 37) (Nj := some 10) #[true, true, true, false, true, true, true, true, true, false, true, false, true, false, false, true, false, false, true, true, true, false, false, false] #[true, false, true, false, true, true, true, true, true, false, true, false, true, false, false, true, false, false, true, true, true, false, true, false] rfl rfl rfl rfl (two_of HT_.out (by kernel_rfl)) (by decide) (by decide) (fun K hK => ?_) (fun K hK => ?_)
                                            · skip
                                              refine goes_ Try.func35 (by kernel_rfl) rfl #[.string a0, .int .i64 1, .int .i64 1] (by rfl) rfl rfl (by (try simp only [List.map_toArray, List.map_cons, List.map_nil]); first | done | rfl | (simp only [List.length_drop, List.length_take]; rfl)) ?_
                                              with_reducible refine (weighbridgeref04_num.calls a0 1 1 t492 _ A13.out).mono ?_
                                              rintro e w' ⟨rfl, ⟨nd, rfl⟩⟩
                                              refine ⟨_, rfl, ?_⟩
                                              refine hK.out _ _ trivial (fun hHeld => ?_)
                                              clear hK K
                                              refine norm_ (a' := ?_) ?_ ?_
                                              rotate_left
                                              · show Act.put _ (some 37) _ = _
                                                simp only [Act.put, List.setIfInBounds_toArray, List.set_cons_zero, List.set_cons_succ, i64_w, i32_w]
                                                rfl
                                              exact norm_ (by first | (simp only [putAll, Act.put, List.setIfInBounds_toArray, List.set_cons_zero, List.set_cons_succ]; done) | (simp only [putAll, Act.put, List.setIfInBounds_toArray, List.set_cons_zero, List.set_cons_succ]; rfl)) (hJ1 () _ ⟨(by (with_reducible repeat (first | refine blk_drewN ?_ _ | refine blk_drew ?_ | refine blk_alloc ?_ _)); exact BK485.out), (by repeat (first | (with_reducible first | exact HB.out | apply below_alloc | apply pw_below_drewN | apply below_drew1 | refine below_set ?_ GE485.out) | exact HB.out))⟩)
                                            · skip
                                              refine box_step ?hg (N := 10) ?hd (cs := #[.int .i64 0, .int .i64 0, .int .i64 0, .int .i64 0, .int .i64 0, .int .i64 0, .int .u32 0, .int .u32 0, .string (⟨#[]⟩ : ByteArray)]) (t := 31) ?hr ?_; (case hd => rfl); (case hg => rfl); (case hr => first | (go_simp; done) | (go_simp; rfl))
                                              intro gb498 hg w27 hbox hb
                                              have n0_ := Aside0.mk (blk_below (g := gb485) (o := .cells #[.int .i64 0, .int .i64 0, .int .i64 0, .int .i64 0, .int .i64 0, .int .i64 0, .int .u32 0, .int .u32 0, .string (⟨#[]⟩ : ByteArray)] 31 (0, 0)) (by (with_reducible repeat (first | refine blk_drewN ?_ _ | refine blk_drew ?_ | refine blk_alloc ?_ _)); exact BK485.out) hb)
                                              have n1_ := Aside0.mk (below_step (by repeat (first | (with_reducible first | exact HB.out | apply below_alloc | apply pw_below_drewN | apply below_drew1 | refine below_set ?_ GE485.out) | exact HB.out)) hb)
                                              have n2_ := Aside0.mk (hbox)
                                              have n3_ := Aside0.mk ((by rw [hg]; exact (below_size (by repeat (first | (with_reducible first | exact HB.out | apply below_alloc | apply pw_below_drewN | apply below_drew1 | refine below_set ?_ GE485.out) | exact HB.out))) : w.heap.size ≤ gb498))
                                              have n4_ := Aside0.mk ((by rw [hg]; exact (below_size (by repeat (first | (with_reducible first | exact HB.out | apply below_alloc | apply pw_below_drewN | apply below_drew1 | refine below_set ?_ GE485.out) | exact HB.out))) : w.heap.size ≤ gb498))
                                              have n5_ := Aside0.mk ((by rw [hg]; exact Nat.ne_of_lt (blk_lt (g := gb485) (o := .cells #[.int .i64 0, .int .i64 0, .int .i64 0, .int .i64 0, .int .i64 0, .int .i64 0, .int .u32 0, .int .u32 0, .string (⟨#[]⟩ : ByteArray)] 31 (0, 0)) (by (with_reducible repeat (first | refine blk_drewN ?_ _ | refine blk_drew ?_ | refine blk_alloc ?_ _)); exact BK485.out)) : gb485 ≠ gb498))
                                              have n6_ := Aside0.mk ((by rw [hg]; exact Nat.ne_of_gt (blk_lt (g := gb485) (o := .cells #[.int .i64 0, .int .i64 0, .int .i64 0, .int .i64 0, .int .i64 0, .int .i64 0, .int .u32 0, .int .u32 0, .string (⟨#[]⟩ : ByteArray)] 31 (0, 0)) (by (with_reducible repeat (first | refine blk_drewN ?_ _ | refine blk_drew ?_ | refine blk_alloc ?_ _)); exact BK485.out)) : gb498 ≠ gb485))
                                              clear BK485
                                              clear HB
                                              have BK485 := n0_
                                              have HB := n1_
                                              have BK498 := n2_
                                              have GW498 := n3_
                                              have GE498 := n4_
                                              have NB485_498 := n5_
                                              have NB498_485 := n6_
                                              clear n0_ n1_ n2_ n3_ n4_ n5_ n6_
                                              clear hb hbox hg
                                              refine hK.out _ _ trivial (fun hHeld => ?_)
                                              clear hK K
                                              refine norm_ (a' := ?_) ?_ ?_
                                              rotate_left
                                              · show Act.put _ (some 10) _ = _
                                                simp only [Act.put, List.setIfInBounds_toArray, List.set_cons_zero, List.set_cons_succ, i64_w, i32_w]
                                                rfl
                                              exact norm_ (by first | (simp only [putAll, Act.put, List.setIfInBounds_toArray, List.set_cons_zero, List.set_cons_succ]; done) | (simp only [putAll, Act.put, List.setIfInBounds_toArray, List.set_cons_zero, List.set_cons_succ]; rfl)) (hJ22 (gb498) _ ⟨(by (with_reducible repeat (first | refine blk_drewN ?_ _ | refine blk_drew ?_ | refine blk_alloc ?_ _)); exact BK485.out), (by (with_reducible repeat (first | refine blk_drewN ?_ _ | refine blk_drew ?_ | refine blk_alloc ?_ _)); exact BK498.out), GW498.out, GE498.out, NB485_498.out, NB498_485.out, (by repeat (first | (with_reducible first | exact HB.out | apply below_alloc | apply pw_below_drewN | apply below_drew1 | refine below_set ?_ GE485.out | refine below_set ?_ GE498.out) | exact HB.out))⟩)
                                          · skip
                                            rintro gb498 w28 ⟨h0_, h1_, h2_, h3_, h4_, h5_, h6_⟩
                                            have n0_ : Aside0 (w28.heap[gb485]? = some (.cells #[.int .i64 0, .int .i64 0, .int .i64 0, .int .i64 0, .int .i64 0, .int .i64 0, .int .u32 0, .int .u32 0, .string (⟨#[]⟩ : ByteArray)] 31 (0, 0))) := ⟨h0_⟩
                                            have n1_ : Aside0 (w28.heap[gb498]? = some (.cells #[.int .i64 0, .int .i64 0, .int .i64 0, .int .i64 0, .int .i64 0, .int .i64 0, .int .u32 0, .int .u32 0, .string (⟨#[]⟩ : ByteArray)] 31 (0, 0))) := ⟨h1_⟩
                                            have n2_ : Aside0 (w.heap.size ≤ gb498) := ⟨h2_⟩
                                            have n3_ : Aside0 (w.heap.size ≤ gb498) := ⟨h3_⟩
                                            have n4_ : Aside0 (gb485 ≠ gb498) := ⟨h4_⟩
                                            have n5_ : Aside0 (gb498 ≠ gb485) := ⟨h5_⟩
                                            have n6_ : Aside0 (Below w.heap.size w w28) := ⟨h6_⟩
                                            clear BK485
                                            clear HB
                                            clear h0_ h1_ h2_ h3_ h4_ h5_ h6_
                                            have BK485 := n0_
                                            have BK498 := n1_
                                            have GW498 := n2_
                                            have GE498 := n3_
                                            have NB485_498 := n4_
                                            have NB498_485 := n5_
                                            have HB := n6_
                                            clear n0_ n1_ n2_ n3_ n4_ n5_ n6_
                                            have hHeld := trivial
                                            refine norm_ (a' := ?_) ?_ ?_
                                            rotate_left
                                            · simp only [putAll, Act.put, List.setIfInBounds_toArray, List.set_cons_zero, List.set_cons_succ]
                                              rfl
                                            refine one_ (i := 1) (N := some 37) #[true, true, true, false, true, true, true, true, true, false, true, false, true, false, false, true, false, false, true, true, true, false, true, false] rfl rfl (one_of HT_.out (by kernel_rfl)) (by decide) (fun K hK => ?_)
                                            refine goes_ Try.func35 (by kernel_rfl) rfl #[.string a0, .int .i64 1, .int .i64 1] (by rfl) rfl rfl (by (try simp only [List.map_toArray, List.map_cons, List.map_nil]); first | done | rfl | (simp only [List.length_drop, List.length_take]; rfl)) ?_
                                            with_reducible refine (weighbridgeref04_num.calls a0 1 1 t492 _ A13.out).mono ?_
                                            rintro e w' ⟨rfl, ⟨nd, rfl⟩⟩
                                            refine ⟨_, rfl, ?_⟩
                                            refine hK.out _ _ trivial (fun hHeld => ?_)
                                            clear hK K
                                            refine norm_ (a' := ?_) ?_ ?_
                                            rotate_left
                                            · show Act.put _ (some 37) _ = _
                                              simp only [Act.put, List.setIfInBounds_toArray, List.set_cons_zero, List.set_cons_succ, i64_w, i32_w]
                                              rfl
                                            exact norm_ (by first | (simp only [putAll, Act.put, List.setIfInBounds_toArray, List.set_cons_zero, List.set_cons_succ]; done) | (simp only [putAll, Act.put, List.setIfInBounds_toArray, List.set_cons_zero, List.set_cons_succ]; rfl)) (hJ1_22 (gb498) _ ⟨(by (with_reducible repeat (first | refine blk_drewN ?_ _ | refine blk_drew ?_ | refine blk_alloc ?_ _)); exact BK485.out), (by (with_reducible repeat (first | refine blk_drewN ?_ _ | refine blk_drew ?_ | refine blk_alloc ?_ _)); exact BK498.out), GW498.out, GE498.out, NB485_498.out, NB498_485.out, (by repeat (first | (with_reducible first | exact HB.out | apply below_alloc | apply pw_below_drewN | apply below_drew1 | refine below_set ?_ GE485.out | refine below_set ?_ GE498.out) | exact HB.out))⟩)
                                        · skip
                                          rintro _ w27 ⟨h0_, h1_⟩
                                          have n0_ : Aside0 (w27.heap[gb485]? = some (.cells #[.int .i64 0, .int .i64 0, .int .i64 0, .int .i64 0, .int .i64 0, .int .i64 0, .int .u32 0, .int .u32 0, .string (⟨#[]⟩ : ByteArray)] 31 (0, 0))) := ⟨h0_⟩
                                          have n1_ : Aside0 (Below w.heap.size w w27) := ⟨h1_⟩
                                          clear BK485
                                          clear HB
                                          clear h0_ h1_
                                          have BK485 := n0_
                                          have HB := n1_
                                          clear n0_ n1_
                                          have hHeld := trivial
                                          refine norm_ (a' := ?_) ?_ ?_
                                          rotate_left
                                          · simp only [putAll, Act.put, List.setIfInBounds_toArray, List.set_cons_zero, List.set_cons_succ]
                                            rfl
                                          refine two_ (i := 3) (j := 22) (Ni := some 39) (Nj := some 10) #[true, true, true, true, true, true, true, true, true, false, true, false, true, false, false, true, false, false, true, true, true, false, false, false] #[true, true, true, false, true, true, true, true, true, false, true, false, true, false, false, true, false, false, true, true, true, false, true, false] rfl rfl rfl rfl (two_of HT_.out (by kernel_rfl)) (by decide) (by decide) (fun K hK => ?_) (fun K hK => ?_)
                                          · skip
                                            refine goes_ Try.func35 (by kernel_rfl) rfl #[.string a0, .int .i64 4, .int .i64 2] (by rfl) rfl rfl (by (try simp only [List.map_toArray, List.map_cons, List.map_nil]); first | done | rfl | (simp only [List.length_drop, List.length_take]; rfl)) ?_
                                            with_reducible refine (weighbridgeref04_num.calls a0 4 2 t493 _ A14.out).mono ?_
                                            rintro e w' ⟨rfl, ⟨nd, rfl⟩⟩
                                            refine ⟨_, rfl, ?_⟩
                                            refine hK.out _ _ trivial (fun hHeld => ?_)
                                            clear hK K
                                            refine norm_ (a' := ?_) ?_ ?_
                                            rotate_left
                                            · show Act.put _ (some 39) _ = _
                                              simp only [Act.put, List.setIfInBounds_toArray, List.set_cons_zero, List.set_cons_succ, i64_w, i32_w]
                                              rfl
                                            exact norm_ (by first | (simp only [putAll, Act.put, List.setIfInBounds_toArray, List.set_cons_zero, List.set_cons_succ]; done) | (simp only [putAll, Act.put, List.setIfInBounds_toArray, List.set_cons_zero, List.set_cons_succ]; rfl)) (hJ1_3 () _ ⟨(by (with_reducible repeat (first | refine blk_drewN ?_ _ | refine blk_drew ?_ | refine blk_alloc ?_ _)); exact BK485.out), (by repeat (first | (with_reducible first | exact HB.out | apply below_alloc | apply pw_below_drewN | apply below_drew1 | refine below_set ?_ GE485.out) | exact HB.out))⟩)
                                          · skip
                                            refine box_step ?hg (N := 10) ?hd (cs := #[.int .i64 0, .int .i64 0, .int .i64 0, .int .i64 0, .int .i64 0, .int .i64 0, .int .u32 0, .int .u32 0, .string (⟨#[]⟩ : ByteArray)]) (t := 31) ?hr ?_; (case hd => rfl); (case hg => rfl); (case hr => first | (go_simp; done) | (go_simp; rfl))
                                            intro gb498 hg w28 hbox hb
                                            have n0_ := Aside0.mk (blk_below (g := gb485) (o := .cells #[.int .i64 0, .int .i64 0, .int .i64 0, .int .i64 0, .int .i64 0, .int .i64 0, .int .u32 0, .int .u32 0, .string (⟨#[]⟩ : ByteArray)] 31 (0, 0)) (by (with_reducible repeat (first | refine blk_drewN ?_ _ | refine blk_drew ?_ | refine blk_alloc ?_ _)); exact BK485.out) hb)
                                            have n1_ := Aside0.mk (below_step (by repeat (first | (with_reducible first | exact HB.out | apply below_alloc | apply pw_below_drewN | apply below_drew1 | refine below_set ?_ GE485.out) | exact HB.out)) hb)
                                            have n2_ := Aside0.mk (hbox)
                                            have n3_ := Aside0.mk ((by rw [hg]; exact (below_size (by repeat (first | (with_reducible first | exact HB.out | apply below_alloc | apply pw_below_drewN | apply below_drew1 | refine below_set ?_ GE485.out) | exact HB.out))) : w.heap.size ≤ gb498))
                                            have n4_ := Aside0.mk ((by rw [hg]; exact (below_size (by repeat (first | (with_reducible first | exact HB.out | apply below_alloc | apply pw_below_drewN | apply below_drew1 | refine below_set ?_ GE485.out) | exact HB.out))) : w.heap.size ≤ gb498))
                                            have n5_ := Aside0.mk ((by rw [hg]; exact Nat.ne_of_lt (blk_lt (g := gb485) (o := .cells #[.int .i64 0, .int .i64 0, .int .i64 0, .int .i64 0, .int .i64 0, .int .i64 0, .int .u32 0, .int .u32 0, .string (⟨#[]⟩ : ByteArray)] 31 (0, 0)) (by (with_reducible repeat (first | refine blk_drewN ?_ _ | refine blk_drew ?_ | refine blk_alloc ?_ _)); exact BK485.out)) : gb485 ≠ gb498))
                                            have n6_ := Aside0.mk ((by rw [hg]; exact Nat.ne_of_gt (blk_lt (g := gb485) (o := .cells #[.int .i64 0, .int .i64 0, .int .i64 0, .int .i64 0, .int .i64 0, .int .i64 0, .int .u32 0, .int .u32 0, .string (⟨#[]⟩ : ByteArray)] 31 (0, 0)) (by (with_reducible repeat (first | refine blk_drewN ?_ _ | refine blk_drew ?_ | refine blk_alloc ?_ _)); exact BK485.out)) : gb498 ≠ gb485))
                                            clear BK485
                                            clear HB
                                            have BK485 := n0_
                                            have HB := n1_
                                            have BK498 := n2_
                                            have GW498 := n3_
                                            have GE498 := n4_
                                            have NB485_498 := n5_
                                            have NB498_485 := n6_
                                            clear n0_ n1_ n2_ n3_ n4_ n5_ n6_
                                            clear hb hbox hg
                                            refine hK.out _ _ trivial (fun hHeld => ?_)
                                            clear hK K
                                            refine norm_ (a' := ?_) ?_ ?_
                                            rotate_left
                                            · show Act.put _ (some 10) _ = _
                                              simp only [Act.put, List.setIfInBounds_toArray, List.set_cons_zero, List.set_cons_succ, i64_w, i32_w]
                                              rfl
                                            exact norm_ (by first | (simp only [putAll, Act.put, List.setIfInBounds_toArray, List.set_cons_zero, List.set_cons_succ]; done) | (simp only [putAll, Act.put, List.setIfInBounds_toArray, List.set_cons_zero, List.set_cons_succ]; rfl)) (hJ1_22 (gb498) _ ⟨(by (with_reducible repeat (first | refine blk_drewN ?_ _ | refine blk_drew ?_ | refine blk_alloc ?_ _)); exact BK485.out), (by (with_reducible repeat (first | refine blk_drewN ?_ _ | refine blk_drew ?_ | refine blk_alloc ?_ _)); exact BK498.out), GW498.out, GE498.out, NB485_498.out, NB498_485.out, (by repeat (first | (with_reducible first | exact HB.out | apply below_alloc | apply pw_below_drewN | apply below_drew1 | refine below_set ?_ GE485.out | refine below_set ?_ GE498.out) | exact HB.out))⟩)
                                      · skip
                                        rintro gb498 w28 ⟨h0_, h1_, h2_, h3_, h4_, h5_, h6_⟩
                                        have n0_ : Aside0 (w28.heap[gb485]? = some (.cells #[.int .i64 0, .int .i64 0, .int .i64 0, .int .i64 0, .int .i64 0, .int .i64 0, .int .u32 0, .int .u32 0, .string (⟨#[]⟩ : ByteArray)] 31 (0, 0))) := ⟨h0_⟩
                                        have n1_ : Aside0 (w28.heap[gb498]? = some (.cells #[.int .i64 0, .int .i64 0, .int .i64 0, .int .i64 0, .int .i64 0, .int .i64 0, .int .u32 0, .int .u32 0, .string (⟨#[]⟩ : ByteArray)] 31 (0, 0))) := ⟨h1_⟩
                                        have n2_ : Aside0 (w.heap.size ≤ gb498) := ⟨h2_⟩
                                        have n3_ : Aside0 (w.heap.size ≤ gb498) := ⟨h3_⟩
                                        have n4_ : Aside0 (gb485 ≠ gb498) := ⟨h4_⟩
                                        have n5_ : Aside0 (gb498 ≠ gb485) := ⟨h5_⟩
                                        have n6_ : Aside0 (Below w.heap.size w w28) := ⟨h6_⟩
                                        clear BK485
                                        clear HB
                                        clear h0_ h1_ h2_ h3_ h4_ h5_ h6_
                                        have BK485 := n0_
                                        have BK498 := n1_
                                        have GW498 := n2_
                                        have GE498 := n3_
                                        have NB485_498 := n4_
                                        have NB498_485 := n5_
                                        have HB := n6_
                                        clear n0_ n1_ n2_ n3_ n4_ n5_ n6_
                                        have hHeld := trivial
                                        refine norm_ (a' := ?_) ?_ ?_
                                        rotate_left
                                        · simp only [putAll, Act.put, List.setIfInBounds_toArray, List.set_cons_zero, List.set_cons_succ]
                                          rfl
                                        refine one_ (i := 3) (N := some 39) #[true, true, true, true, true, true, true, true, true, false, true, false, true, false, false, true, false, false, true, true, true, false, true, false] rfl rfl (one_of HT_.out (by kernel_rfl)) (by decide) (fun K hK => ?_)
                                        refine goes_ Try.func35 (by kernel_rfl) rfl #[.string a0, .int .i64 4, .int .i64 2] (by rfl) rfl rfl (by (try simp only [List.map_toArray, List.map_cons, List.map_nil]); first | done | rfl | (simp only [List.length_drop, List.length_take]; rfl)) ?_
                                        with_reducible refine (weighbridgeref04_num.calls a0 4 2 t493 _ A14.out).mono ?_
                                        rintro e w' ⟨rfl, ⟨nd, rfl⟩⟩
                                        refine ⟨_, rfl, ?_⟩
                                        refine hK.out _ _ trivial (fun hHeld => ?_)
                                        clear hK K
                                        refine norm_ (a' := ?_) ?_ ?_
                                        rotate_left
                                        · show Act.put _ (some 39) _ = _
                                          simp only [Act.put, List.setIfInBounds_toArray, List.set_cons_zero, List.set_cons_succ, i64_w, i32_w]
                                          rfl
                                        exact norm_ (by first | (simp only [putAll, Act.put, List.setIfInBounds_toArray, List.set_cons_zero, List.set_cons_succ]; done) | (simp only [putAll, Act.put, List.setIfInBounds_toArray, List.set_cons_zero, List.set_cons_succ]; rfl)) (hJ1_3_22 (gb498) _ ⟨(by (with_reducible repeat (first | refine blk_drewN ?_ _ | refine blk_drew ?_ | refine blk_alloc ?_ _)); exact BK485.out), (by (with_reducible repeat (first | refine blk_drewN ?_ _ | refine blk_drew ?_ | refine blk_alloc ?_ _)); exact BK498.out), GW498.out, GE498.out, NB485_498.out, NB498_485.out, (by repeat (first | (with_reducible first | exact HB.out | apply below_alloc | apply pw_below_drewN | apply below_drew1 | refine below_set ?_ GE485.out | refine below_set ?_ GE498.out) | exact HB.out))⟩)
                                    · skip
                                      rintro _ w27 ⟨h0_, h1_⟩
                                      have n0_ : Aside0 (w27.heap[gb485]? = some (.cells #[.int .i64 0, .int .i64 0, .int .i64 0, .int .i64 0, .int .i64 0, .int .i64 0, .int .u32 0, .int .u32 0, .string (⟨#[]⟩ : ByteArray)] 31 (0, 0))) := ⟨h0_⟩
                                      have n1_ : Aside0 (Below w.heap.size w w27) := ⟨h1_⟩
                                      clear BK485
                                      clear HB
                                      clear h0_ h1_
                                      have BK485 := n0_
                                      have HB := n1_
                                      clear n0_ n1_
                                      have hHeld := trivial
                                      refine norm_ (a' := ?_) ?_ ?_
                                      rotate_left
                                      · simp only [putAll, Act.put, List.setIfInBounds_toArray, List.set_cons_zero, List.set_cons_succ]
                                        rfl
                                      refine two_ (i := 9) (j := 22) (Ni := some 45) (Nj := some 10) #[true, true, true, true, true, true, true, true, true, true, true, false, true, false, false, true, false, false, true, true, true, false, false, false] #[true, true, true, true, true, true, true, true, true, false, true, false, true, false, false, true, false, false, true, true, true, false, true, false] rfl rfl rfl rfl (two_of HT_.out (by kernel_rfl)) (by decide) (by decide) (fun K hK => ?_) (fun K hK => ?_)
                                      · skip
                                        refine goes_ Try.func35 (by kernel_rfl) rfl #[.string a0, .int .i64 8, .int .i64 1] (by rfl) rfl rfl (by (try simp only [List.map_toArray, List.map_cons, List.map_nil]); first | done | rfl | (simp only [List.length_drop, List.length_take]; rfl)) ?_
                                        with_reducible refine (weighbridgeref04_num.calls a0 8 1 t494 _ A15.out).mono ?_
                                        rintro e w' ⟨rfl, ⟨nd, rfl⟩⟩
                                        refine ⟨_, rfl, ?_⟩
                                        refine hK.out _ _ trivial (fun hHeld => ?_)
                                        clear hK K
                                        refine norm_ (a' := ?_) ?_ ?_
                                        rotate_left
                                        · show Act.put _ (some 45) _ = _
                                          simp only [Act.put, List.setIfInBounds_toArray, List.set_cons_zero, List.set_cons_succ, i64_w, i32_w]
                                          rfl
                                        exact norm_ (by first | (simp only [putAll, Act.put, List.setIfInBounds_toArray, List.set_cons_zero, List.set_cons_succ]; done) | (simp only [putAll, Act.put, List.setIfInBounds_toArray, List.set_cons_zero, List.set_cons_succ]; rfl)) (hJ1_3_9 () _ ⟨(by (with_reducible repeat (first | refine blk_drewN ?_ _ | refine blk_drew ?_ | refine blk_alloc ?_ _)); exact BK485.out), (by repeat (first | (with_reducible first | exact HB.out | apply below_alloc | apply pw_below_drewN | apply below_drew1 | refine below_set ?_ GE485.out) | exact HB.out))⟩)
                                      · skip
                                        refine box_step ?hg (N := 10) ?hd (cs := #[.int .i64 0, .int .i64 0, .int .i64 0, .int .i64 0, .int .i64 0, .int .i64 0, .int .u32 0, .int .u32 0, .string (⟨#[]⟩ : ByteArray)]) (t := 31) ?hr ?_; (case hd => rfl); (case hg => rfl); (case hr => first | (go_simp; done) | (go_simp; rfl))
                                        intro gb498 hg w28 hbox hb
                                        have n0_ := Aside0.mk (blk_below (g := gb485) (o := .cells #[.int .i64 0, .int .i64 0, .int .i64 0, .int .i64 0, .int .i64 0, .int .i64 0, .int .u32 0, .int .u32 0, .string (⟨#[]⟩ : ByteArray)] 31 (0, 0)) (by (with_reducible repeat (first | refine blk_drewN ?_ _ | refine blk_drew ?_ | refine blk_alloc ?_ _)); exact BK485.out) hb)
                                        have n1_ := Aside0.mk (below_step (by repeat (first | (with_reducible first | exact HB.out | apply below_alloc | apply pw_below_drewN | apply below_drew1 | refine below_set ?_ GE485.out) | exact HB.out)) hb)
                                        have n2_ := Aside0.mk (hbox)
                                        have n3_ := Aside0.mk ((by rw [hg]; exact (below_size (by repeat (first | (with_reducible first | exact HB.out | apply below_alloc | apply pw_below_drewN | apply below_drew1 | refine below_set ?_ GE485.out) | exact HB.out))) : w.heap.size ≤ gb498))
                                        have n4_ := Aside0.mk ((by rw [hg]; exact (below_size (by repeat (first | (with_reducible first | exact HB.out | apply below_alloc | apply pw_below_drewN | apply below_drew1 | refine below_set ?_ GE485.out) | exact HB.out))) : w.heap.size ≤ gb498))
                                        have n5_ := Aside0.mk ((by rw [hg]; exact Nat.ne_of_lt (blk_lt (g := gb485) (o := .cells #[.int .i64 0, .int .i64 0, .int .i64 0, .int .i64 0, .int .i64 0, .int .i64 0, .int .u32 0, .int .u32 0, .string (⟨#[]⟩ : ByteArray)] 31 (0, 0)) (by (with_reducible repeat (first | refine blk_drewN ?_ _ | refine blk_drew ?_ | refine blk_alloc ?_ _)); exact BK485.out)) : gb485 ≠ gb498))
                                        have n6_ := Aside0.mk ((by rw [hg]; exact Nat.ne_of_gt (blk_lt (g := gb485) (o := .cells #[.int .i64 0, .int .i64 0, .int .i64 0, .int .i64 0, .int .i64 0, .int .i64 0, .int .u32 0, .int .u32 0, .string (⟨#[]⟩ : ByteArray)] 31 (0, 0)) (by (with_reducible repeat (first | refine blk_drewN ?_ _ | refine blk_drew ?_ | refine blk_alloc ?_ _)); exact BK485.out)) : gb498 ≠ gb485))
                                        clear BK485
                                        clear HB
                                        have BK485 := n0_
                                        have HB := n1_
                                        have BK498 := n2_
                                        have GW498 := n3_
                                        have GE498 := n4_
                                        have NB485_498 := n5_
                                        have NB498_485 := n6_
                                        clear n0_ n1_ n2_ n3_ n4_ n5_ n6_
                                        clear hb hbox hg
                                        refine hK.out _ _ trivial (fun hHeld => ?_)
                                        clear hK K
                                        refine norm_ (a' := ?_) ?_ ?_
                                        rotate_left
                                        · show Act.put _ (some 10) _ = _
                                          simp only [Act.put, List.setIfInBounds_toArray, List.set_cons_zero, List.set_cons_succ, i64_w, i32_w]
                                          rfl
                                        exact norm_ (by first | (simp only [putAll, Act.put, List.setIfInBounds_toArray, List.set_cons_zero, List.set_cons_succ]; done) | (simp only [putAll, Act.put, List.setIfInBounds_toArray, List.set_cons_zero, List.set_cons_succ]; rfl)) (hJ1_3_22 (gb498) _ ⟨(by (with_reducible repeat (first | refine blk_drewN ?_ _ | refine blk_drew ?_ | refine blk_alloc ?_ _)); exact BK485.out), (by (with_reducible repeat (first | refine blk_drewN ?_ _ | refine blk_drew ?_ | refine blk_alloc ?_ _)); exact BK498.out), GW498.out, GE498.out, NB485_498.out, NB498_485.out, (by repeat (first | (with_reducible first | exact HB.out | apply below_alloc | apply pw_below_drewN | apply below_drew1 | refine below_set ?_ GE485.out | refine below_set ?_ GE498.out) | exact HB.out))⟩)
                                  · skip
                                    rintro gb498 w28 ⟨h0_, h1_, h2_, h3_, h4_, h5_, h6_⟩
                                    have n0_ : Aside0 (w28.heap[gb485]? = some (.cells #[.int .i64 0, .int .i64 0, .int .i64 0, .int .i64 0, .int .i64 0, .int .i64 0, .int .u32 0, .int .u32 0, .string (⟨#[]⟩ : ByteArray)] 31 (0, 0))) := ⟨h0_⟩
                                    have n1_ : Aside0 (w28.heap[gb498]? = some (.cells #[.int .i64 0, .int .i64 0, .int .i64 0, .int .i64 0, .int .i64 0, .int .i64 0, .int .u32 0, .int .u32 0, .string (⟨#[]⟩ : ByteArray)] 31 (0, 0))) := ⟨h1_⟩
                                    have n2_ : Aside0 (w.heap.size ≤ gb498) := ⟨h2_⟩
                                    have n3_ : Aside0 (w.heap.size ≤ gb498) := ⟨h3_⟩
                                    have n4_ : Aside0 (gb485 ≠ gb498) := ⟨h4_⟩
                                    have n5_ : Aside0 (gb498 ≠ gb485) := ⟨h5_⟩
                                    have n6_ : Aside0 (Below w.heap.size w w28) := ⟨h6_⟩
                                    clear BK485
                                    clear HB
                                    clear h0_ h1_ h2_ h3_ h4_ h5_ h6_
                                    have BK485 := n0_
                                    have BK498 := n1_
                                    have GW498 := n2_
                                    have GE498 := n3_
                                    have NB485_498 := n4_
                                    have NB498_485 := n5_
                                    have HB := n6_
                                    clear n0_ n1_ n2_ n3_ n4_ n5_ n6_
                                    have hHeld := trivial
                                    refine norm_ (a' := ?_) ?_ ?_
                                    rotate_left
                                    · simp only [putAll, Act.put, List.setIfInBounds_toArray, List.set_cons_zero, List.set_cons_succ]
                                      rfl
                                    refine one_ (i := 9) (N := some 45) #[true, true, true, true, true, true, true, true, true, true, true, false, true, false, false, true, false, false, true, true, true, false, true, false] rfl rfl (one_of HT_.out (by kernel_rfl)) (by decide) (fun K hK => ?_)
                                    refine goes_ Try.func35 (by kernel_rfl) rfl #[.string a0, .int .i64 8, .int .i64 1] (by rfl) rfl rfl (by (try simp only [List.map_toArray, List.map_cons, List.map_nil]); first | done | rfl | (simp only [List.length_drop, List.length_take]; rfl)) ?_
                                    with_reducible refine (weighbridgeref04_num.calls a0 8 1 t494 _ A15.out).mono ?_
                                    rintro e w' ⟨rfl, ⟨nd, rfl⟩⟩
                                    refine ⟨_, rfl, ?_⟩
                                    refine hK.out _ _ trivial (fun hHeld => ?_)
                                    clear hK K
                                    refine norm_ (a' := ?_) ?_ ?_
                                    rotate_left
                                    · show Act.put _ (some 45) _ = _
                                      simp only [Act.put, List.setIfInBounds_toArray, List.set_cons_zero, List.set_cons_succ, i64_w, i32_w]
                                      rfl
                                    exact norm_ (by first | (simp only [putAll, Act.put, List.setIfInBounds_toArray, List.set_cons_zero, List.set_cons_succ]; done) | (simp only [putAll, Act.put, List.setIfInBounds_toArray, List.set_cons_zero, List.set_cons_succ]; rfl)) (hJ1_3_9_22 (gb498) _ ⟨(by (with_reducible repeat (first | refine blk_drewN ?_ _ | refine blk_drew ?_ | refine blk_alloc ?_ _)); exact BK485.out), (by (with_reducible repeat (first | refine blk_drewN ?_ _ | refine blk_drew ?_ | refine blk_alloc ?_ _)); exact BK498.out), GW498.out, GE498.out, NB485_498.out, NB498_485.out, (by repeat (first | (with_reducible first | exact HB.out | apply below_alloc | apply pw_below_drewN | apply below_drew1 | refine below_set ?_ GE485.out | refine below_set ?_ GE498.out) | exact HB.out))⟩)
                                · skip
                                  rintro _ w27 ⟨h0_, h1_⟩
                                  have n0_ : Aside0 (w27.heap[gb485]? = some (.cells #[.int .i64 0, .int .i64 0, .int .i64 0, .int .i64 0, .int .i64 0, .int .i64 0, .int .u32 0, .int .u32 0, .string (⟨#[]⟩ : ByteArray)] 31 (0, 0))) := ⟨h0_⟩
                                  have n1_ : Aside0 (Below w.heap.size w w27) := ⟨h1_⟩
                                  clear BK485
                                  clear HB
                                  clear h0_ h1_
                                  have BK485 := n0_
                                  have HB := n1_
                                  clear n0_ n1_
                                  have hHeld := trivial
                                  refine norm_ (a' := ?_) ?_ ?_
                                  rotate_left
                                  · simp only [putAll, Act.put, List.setIfInBounds_toArray, List.set_cons_zero, List.set_cons_succ]
                                    rfl
                                  refine two_ (i := 11) (j := 22) (Ni := some 47) (Nj := some 10) #[true, true, true, true, true, true, true, true, true, true, true, true, true, false, false, true, false, false, true, true, true, false, false, false] #[true, true, true, true, true, true, true, true, true, true, true, false, true, false, false, true, false, false, true, true, true, false, true, false] rfl rfl rfl rfl (two_of HT_.out (by kernel_rfl)) (by decide) (by decide) (fun K hK => ?_) (fun K hK => ?_)
                                  · skip
                                    refine goes_ Try.func35 (by kernel_rfl) rfl #[.string a0, .int .i64 9, .int .i64 1] (by rfl) rfl rfl (by (try simp only [List.map_toArray, List.map_cons, List.map_nil]); first | done | rfl | (simp only [List.length_drop, List.length_take]; rfl)) ?_
                                    with_reducible refine (weighbridgeref04_num.calls a0 9 1 t495 _ A16.out).mono ?_
                                    rintro e w' ⟨rfl, ⟨nd, rfl⟩⟩
                                    refine ⟨_, rfl, ?_⟩
                                    refine hK.out _ _ trivial (fun hHeld => ?_)
                                    clear hK K
                                    refine norm_ (a' := ?_) ?_ ?_
                                    rotate_left
                                    · show Act.put _ (some 47) _ = _
                                      simp only [Act.put, List.setIfInBounds_toArray, List.set_cons_zero, List.set_cons_succ, i64_w, i32_w]
                                      rfl
                                    exact norm_ (by first | (simp only [putAll, Act.put, List.setIfInBounds_toArray, List.set_cons_zero, List.set_cons_succ]; done) | (simp only [putAll, Act.put, List.setIfInBounds_toArray, List.set_cons_zero, List.set_cons_succ]; rfl)) (hJ1_3_9_11 () _ ⟨(by (with_reducible repeat (first | refine blk_drewN ?_ _ | refine blk_drew ?_ | refine blk_alloc ?_ _)); exact BK485.out), (by repeat (first | (with_reducible first | exact HB.out | apply below_alloc | apply pw_below_drewN | apply below_drew1 | refine below_set ?_ GE485.out) | exact HB.out))⟩)
                                  · skip
                                    refine box_step ?hg (N := 10) ?hd (cs := #[.int .i64 0, .int .i64 0, .int .i64 0, .int .i64 0, .int .i64 0, .int .i64 0, .int .u32 0, .int .u32 0, .string (⟨#[]⟩ : ByteArray)]) (t := 31) ?hr ?_; (case hd => rfl); (case hg => rfl); (case hr => first | (go_simp; done) | (go_simp; rfl))
                                    intro gb498 hg w28 hbox hb
                                    have n0_ := Aside0.mk (blk_below (g := gb485) (o := .cells #[.int .i64 0, .int .i64 0, .int .i64 0, .int .i64 0, .int .i64 0, .int .i64 0, .int .u32 0, .int .u32 0, .string (⟨#[]⟩ : ByteArray)] 31 (0, 0)) (by (with_reducible repeat (first | refine blk_drewN ?_ _ | refine blk_drew ?_ | refine blk_alloc ?_ _)); exact BK485.out) hb)
                                    have n1_ := Aside0.mk (below_step (by repeat (first | (with_reducible first | exact HB.out | apply below_alloc | apply pw_below_drewN | apply below_drew1 | refine below_set ?_ GE485.out) | exact HB.out)) hb)
                                    have n2_ := Aside0.mk (hbox)
                                    have n3_ := Aside0.mk ((by rw [hg]; exact (below_size (by repeat (first | (with_reducible first | exact HB.out | apply below_alloc | apply pw_below_drewN | apply below_drew1 | refine below_set ?_ GE485.out) | exact HB.out))) : w.heap.size ≤ gb498))
                                    have n4_ := Aside0.mk ((by rw [hg]; exact (below_size (by repeat (first | (with_reducible first | exact HB.out | apply below_alloc | apply pw_below_drewN | apply below_drew1 | refine below_set ?_ GE485.out) | exact HB.out))) : w.heap.size ≤ gb498))
                                    have n5_ := Aside0.mk ((by rw [hg]; exact Nat.ne_of_lt (blk_lt (g := gb485) (o := .cells #[.int .i64 0, .int .i64 0, .int .i64 0, .int .i64 0, .int .i64 0, .int .i64 0, .int .u32 0, .int .u32 0, .string (⟨#[]⟩ : ByteArray)] 31 (0, 0)) (by (with_reducible repeat (first | refine blk_drewN ?_ _ | refine blk_drew ?_ | refine blk_alloc ?_ _)); exact BK485.out)) : gb485 ≠ gb498))
                                    have n6_ := Aside0.mk ((by rw [hg]; exact Nat.ne_of_gt (blk_lt (g := gb485) (o := .cells #[.int .i64 0, .int .i64 0, .int .i64 0, .int .i64 0, .int .i64 0, .int .i64 0, .int .u32 0, .int .u32 0, .string (⟨#[]⟩ : ByteArray)] 31 (0, 0)) (by (with_reducible repeat (first | refine blk_drewN ?_ _ | refine blk_drew ?_ | refine blk_alloc ?_ _)); exact BK485.out)) : gb498 ≠ gb485))
                                    clear BK485
                                    clear HB
                                    have BK485 := n0_
                                    have HB := n1_
                                    have BK498 := n2_
                                    have GW498 := n3_
                                    have GE498 := n4_
                                    have NB485_498 := n5_
                                    have NB498_485 := n6_
                                    clear n0_ n1_ n2_ n3_ n4_ n5_ n6_
                                    clear hb hbox hg
                                    refine hK.out _ _ trivial (fun hHeld => ?_)
                                    clear hK K
                                    refine norm_ (a' := ?_) ?_ ?_
                                    rotate_left
                                    · show Act.put _ (some 10) _ = _
                                      simp only [Act.put, List.setIfInBounds_toArray, List.set_cons_zero, List.set_cons_succ, i64_w, i32_w]
                                      rfl
                                    exact norm_ (by first | (simp only [putAll, Act.put, List.setIfInBounds_toArray, List.set_cons_zero, List.set_cons_succ]; done) | (simp only [putAll, Act.put, List.setIfInBounds_toArray, List.set_cons_zero, List.set_cons_succ]; rfl)) (hJ1_3_9_22 (gb498) _ ⟨(by (with_reducible repeat (first | refine blk_drewN ?_ _ | refine blk_drew ?_ | refine blk_alloc ?_ _)); exact BK485.out), (by (with_reducible repeat (first | refine blk_drewN ?_ _ | refine blk_drew ?_ | refine blk_alloc ?_ _)); exact BK498.out), GW498.out, GE498.out, NB485_498.out, NB498_485.out, (by repeat (first | (with_reducible first | exact HB.out | apply below_alloc | apply pw_below_drewN | apply below_drew1 | refine below_set ?_ GE485.out | refine below_set ?_ GE498.out) | exact HB.out))⟩)
                              · skip
                                rintro gb498 w28 ⟨h0_, h1_, h2_, h3_, h4_, h5_, h6_⟩
                                have n0_ : Aside0 (w28.heap[gb485]? = some (.cells #[.int .i64 0, .int .i64 0, .int .i64 0, .int .i64 0, .int .i64 0, .int .i64 0, .int .u32 0, .int .u32 0, .string (⟨#[]⟩ : ByteArray)] 31 (0, 0))) := ⟨h0_⟩
                                have n1_ : Aside0 (w28.heap[gb498]? = some (.cells #[.int .i64 0, .int .i64 0, .int .i64 0, .int .i64 0, .int .i64 0, .int .i64 0, .int .u32 0, .int .u32 0, .string (⟨#[]⟩ : ByteArray)] 31 (0, 0))) := ⟨h1_⟩
                                have n2_ : Aside0 (w.heap.size ≤ gb498) := ⟨h2_⟩
                                have n3_ : Aside0 (w.heap.size ≤ gb498) := ⟨h3_⟩
                                have n4_ : Aside0 (gb485 ≠ gb498) := ⟨h4_⟩
                                have n5_ : Aside0 (gb498 ≠ gb485) := ⟨h5_⟩
                                have n6_ : Aside0 (Below w.heap.size w w28) := ⟨h6_⟩
                                clear BK485
                                clear HB
                                clear h0_ h1_ h2_ h3_ h4_ h5_ h6_
                                have BK485 := n0_
                                have BK498 := n1_
                                have GW498 := n2_
                                have GE498 := n3_
                                have NB485_498 := n4_
                                have NB498_485 := n5_
                                have HB := n6_
                                clear n0_ n1_ n2_ n3_ n4_ n5_ n6_
                                have hHeld := trivial
                                refine norm_ (a' := ?_) ?_ ?_
                                rotate_left
                                · simp only [putAll, Act.put, List.setIfInBounds_toArray, List.set_cons_zero, List.set_cons_succ]
                                  rfl
                                refine one_ (i := 11) (N := some 47) #[true, true, true, true, true, true, true, true, true, true, true, true, true, false, false, true, false, false, true, true, true, false, true, false] rfl rfl (one_of HT_.out (by kernel_rfl)) (by decide) (fun K hK => ?_)
                                refine goes_ Try.func35 (by kernel_rfl) rfl #[.string a0, .int .i64 9, .int .i64 1] (by rfl) rfl rfl (by (try simp only [List.map_toArray, List.map_cons, List.map_nil]); first | done | rfl | (simp only [List.length_drop, List.length_take]; rfl)) ?_
                                with_reducible refine (weighbridgeref04_num.calls a0 9 1 t495 _ A16.out).mono ?_
                                rintro e w' ⟨rfl, ⟨nd, rfl⟩⟩
                                refine ⟨_, rfl, ?_⟩
                                refine hK.out _ _ trivial (fun hHeld => ?_)
                                clear hK K
                                refine norm_ (a' := ?_) ?_ ?_
                                rotate_left
                                · show Act.put _ (some 47) _ = _
                                  simp only [Act.put, List.setIfInBounds_toArray, List.set_cons_zero, List.set_cons_succ, i64_w, i32_w]
                                  rfl
                                exact norm_ (by first | (simp only [putAll, Act.put, List.setIfInBounds_toArray, List.set_cons_zero, List.set_cons_succ]; done) | (simp only [putAll, Act.put, List.setIfInBounds_toArray, List.set_cons_zero, List.set_cons_succ]; rfl)) (hJ1_3_9_11_22 (gb498) _ ⟨(by (with_reducible repeat (first | refine blk_drewN ?_ _ | refine blk_drew ?_ | refine blk_alloc ?_ _)); exact BK485.out), (by (with_reducible repeat (first | refine blk_drewN ?_ _ | refine blk_drew ?_ | refine blk_alloc ?_ _)); exact BK498.out), GW498.out, GE498.out, NB485_498.out, NB498_485.out, (by repeat (first | (with_reducible first | exact HB.out | apply below_alloc | apply pw_below_drewN | apply below_drew1 | refine below_set ?_ GE485.out | refine below_set ?_ GE498.out) | exact HB.out))⟩)
                            · skip
                              rintro _ w27 ⟨h0_, h1_⟩
                              have n0_ : Aside0 (w27.heap[gb485]? = some (.cells #[.int .i64 0, .int .i64 0, .int .i64 0, .int .i64 0, .int .i64 0, .int .i64 0, .int .u32 0, .int .u32 0, .string (⟨#[]⟩ : ByteArray)] 31 (0, 0))) := ⟨h0_⟩
                              have n1_ : Aside0 (Below w.heap.size w w27) := ⟨h1_⟩
                              clear BK485
                              clear HB
                              clear h0_ h1_
                              have BK485 := n0_
                              have HB := n1_
                              clear n0_ n1_
                              have hHeld := trivial
                              refine norm_ (a' := ?_) ?_ ?_
                              rotate_left
                              · simp only [putAll, Act.put, List.setIfInBounds_toArray, List.set_cons_zero, List.set_cons_succ]
                                rfl
                              refine two_ (i := 13) (j := 22) (Ni := some 49) (Nj := some 10) #[true, true, true, true, true, true, true, true, true, true, true, true, true, true, false, true, false, false, true, true, true, false, false, false] #[true, true, true, true, true, true, true, true, true, true, true, true, true, false, false, true, false, false, true, true, true, false, true, false] rfl rfl rfl rfl (two_of HT_.out (by kernel_rfl)) (by decide) (by decide) (fun K hK => ?_) (fun K hK => ?_)
                              · skip
                                refine goes_ Try.func35 (by kernel_rfl) rfl #[.string a0, .int .i64 12, .int .i64 4] (by rfl) rfl rfl (by (try simp only [List.map_toArray, List.map_cons, List.map_nil]); first | done | rfl | (simp only [List.length_drop, List.length_take]; rfl)) ?_
                                with_reducible refine (weighbridgeref04_num.calls a0 12 4 t496 _ A17.out).mono ?_
                                rintro e w' ⟨rfl, ⟨nd, rfl⟩⟩
                                refine ⟨_, rfl, ?_⟩
                                refine hK.out _ _ trivial (fun hHeld => ?_)
                                clear hK K
                                refine norm_ (a' := ?_) ?_ ?_
                                rotate_left
                                · show Act.put _ (some 49) _ = _
                                  simp only [Act.put, List.setIfInBounds_toArray, List.set_cons_zero, List.set_cons_succ, i64_w, i32_w]
                                  rfl
                                refine pure_ (i := 14) (N := some 50) (v := ?_) (a' := ?_) #[true, true, true, true, true, true, true, true, true, true, true, true, true, true, true, true, false, false, true, true, true, false, false, false] rfl rfl (any_of HT_.out (by kernel_rfl)) (fun _ _ _ h => h) (Or.inl ⟨by rfl, ?_⟩) ?_ ?_
                                rotate_left
                                · intro w'
                                  go_simp
                                  with_reducible rfl
                                rotate_left
                                · simp only [Act.put, List.setIfInBounds_toArray, List.set_cons_zero, List.set_cons_succ, i64_w, i32_w]
                                  rfl
                                exact norm_ (by first | (simp only [putAll, Act.put, List.setIfInBounds_toArray, List.set_cons_zero, List.set_cons_succ]; done) | (simp only [putAll, Act.put, List.setIfInBounds_toArray, List.set_cons_zero, List.set_cons_succ]; rfl)) (hJ1_3_9_11_13 () _ ⟨(by (with_reducible repeat (first | refine blk_drewN ?_ _ | refine blk_drew ?_ | refine blk_alloc ?_ _)); exact BK485.out), (by repeat (first | (with_reducible first | exact HB.out | apply below_alloc | apply pw_below_drewN | apply below_drew1 | refine below_set ?_ GE485.out) | exact HB.out))⟩)
                              · skip
                                refine box_step ?hg (N := 10) ?hd (cs := #[.int .i64 0, .int .i64 0, .int .i64 0, .int .i64 0, .int .i64 0, .int .i64 0, .int .u32 0, .int .u32 0, .string (⟨#[]⟩ : ByteArray)]) (t := 31) ?hr ?_; (case hd => rfl); (case hg => rfl); (case hr => first | (go_simp; done) | (go_simp; rfl))
                                intro gb498 hg w28 hbox hb
                                have n0_ := Aside0.mk (blk_below (g := gb485) (o := .cells #[.int .i64 0, .int .i64 0, .int .i64 0, .int .i64 0, .int .i64 0, .int .i64 0, .int .u32 0, .int .u32 0, .string (⟨#[]⟩ : ByteArray)] 31 (0, 0)) (by (with_reducible repeat (first | refine blk_drewN ?_ _ | refine blk_drew ?_ | refine blk_alloc ?_ _)); exact BK485.out) hb)
                                have n1_ := Aside0.mk (below_step (by repeat (first | (with_reducible first | exact HB.out | apply below_alloc | apply pw_below_drewN | apply below_drew1 | refine below_set ?_ GE485.out) | exact HB.out)) hb)
                                have n2_ := Aside0.mk (hbox)
                                have n3_ := Aside0.mk ((by rw [hg]; exact (below_size (by repeat (first | (with_reducible first | exact HB.out | apply below_alloc | apply pw_below_drewN | apply below_drew1 | refine below_set ?_ GE485.out) | exact HB.out))) : w.heap.size ≤ gb498))
                                have n4_ := Aside0.mk ((by rw [hg]; exact (below_size (by repeat (first | (with_reducible first | exact HB.out | apply below_alloc | apply pw_below_drewN | apply below_drew1 | refine below_set ?_ GE485.out) | exact HB.out))) : w.heap.size ≤ gb498))
                                have n5_ := Aside0.mk ((by rw [hg]; exact Nat.ne_of_lt (blk_lt (g := gb485) (o := .cells #[.int .i64 0, .int .i64 0, .int .i64 0, .int .i64 0, .int .i64 0, .int .i64 0, .int .u32 0, .int .u32 0, .string (⟨#[]⟩ : ByteArray)] 31 (0, 0)) (by (with_reducible repeat (first | refine blk_drewN ?_ _ | refine blk_drew ?_ | refine blk_alloc ?_ _)); exact BK485.out)) : gb485 ≠ gb498))
                                have n6_ := Aside0.mk ((by rw [hg]; exact Nat.ne_of_gt (blk_lt (g := gb485) (o := .cells #[.int .i64 0, .int .i64 0, .int .i64 0, .int .i64 0, .int .i64 0, .int .i64 0, .int .u32 0, .int .u32 0, .string (⟨#[]⟩ : ByteArray)] 31 (0, 0)) (by (with_reducible repeat (first | refine blk_drewN ?_ _ | refine blk_drew ?_ | refine blk_alloc ?_ _)); exact BK485.out)) : gb498 ≠ gb485))
                                clear BK485
                                clear HB
                                have BK485 := n0_
                                have HB := n1_
                                have BK498 := n2_
                                have GW498 := n3_
                                have GE498 := n4_
                                have NB485_498 := n5_
                                have NB498_485 := n6_
                                clear n0_ n1_ n2_ n3_ n4_ n5_ n6_
                                clear hb hbox hg
                                refine hK.out _ _ trivial (fun hHeld => ?_)
                                clear hK K
                                refine norm_ (a' := ?_) ?_ ?_
                                rotate_left
                                · show Act.put _ (some 10) _ = _
                                  simp only [Act.put, List.setIfInBounds_toArray, List.set_cons_zero, List.set_cons_succ, i64_w, i32_w]
                                  rfl
                                exact norm_ (by first | (simp only [putAll, Act.put, List.setIfInBounds_toArray, List.set_cons_zero, List.set_cons_succ]; done) | (simp only [putAll, Act.put, List.setIfInBounds_toArray, List.set_cons_zero, List.set_cons_succ]; rfl)) (hJ1_3_9_11_22 (gb498) _ ⟨(by (with_reducible repeat (first | refine blk_drewN ?_ _ | refine blk_drew ?_ | refine blk_alloc ?_ _)); exact BK485.out), (by (with_reducible repeat (first | refine blk_drewN ?_ _ | refine blk_drew ?_ | refine blk_alloc ?_ _)); exact BK498.out), GW498.out, GE498.out, NB485_498.out, NB498_485.out, (by repeat (first | (with_reducible first | exact HB.out | apply below_alloc | apply pw_below_drewN | apply below_drew1 | refine below_set ?_ GE485.out | refine below_set ?_ GE498.out) | exact HB.out))⟩)
                          · skip
                            rintro gb498 w28 ⟨h0_, h1_, h2_, h3_, h4_, h5_, h6_⟩
                            have n0_ : Aside0 (w28.heap[gb485]? = some (.cells #[.int .i64 0, .int .i64 0, .int .i64 0, .int .i64 0, .int .i64 0, .int .i64 0, .int .u32 0, .int .u32 0, .string (⟨#[]⟩ : ByteArray)] 31 (0, 0))) := ⟨h0_⟩
                            have n1_ : Aside0 (w28.heap[gb498]? = some (.cells #[.int .i64 0, .int .i64 0, .int .i64 0, .int .i64 0, .int .i64 0, .int .i64 0, .int .u32 0, .int .u32 0, .string (⟨#[]⟩ : ByteArray)] 31 (0, 0))) := ⟨h1_⟩
                            have n2_ : Aside0 (w.heap.size ≤ gb498) := ⟨h2_⟩
                            have n3_ : Aside0 (w.heap.size ≤ gb498) := ⟨h3_⟩
                            have n4_ : Aside0 (gb485 ≠ gb498) := ⟨h4_⟩
                            have n5_ : Aside0 (gb498 ≠ gb485) := ⟨h5_⟩
                            have n6_ : Aside0 (Below w.heap.size w w28) := ⟨h6_⟩
                            clear BK485
                            clear HB
                            clear h0_ h1_ h2_ h3_ h4_ h5_ h6_
                            have BK485 := n0_
                            have BK498 := n1_
                            have GW498 := n2_
                            have GE498 := n3_
                            have NB485_498 := n4_
                            have NB498_485 := n5_
                            have HB := n6_
                            clear n0_ n1_ n2_ n3_ n4_ n5_ n6_
                            have hHeld := trivial
                            refine norm_ (a' := ?_) ?_ ?_
                            rotate_left
                            · simp only [putAll, Act.put, List.setIfInBounds_toArray, List.set_cons_zero, List.set_cons_succ]
                              rfl
                            refine one_ (i := 13) (N := some 49) #[true, true, true, true, true, true, true, true, true, true, true, true, true, true, false, true, false, false, true, true, true, false, true, false] rfl rfl (one_of HT_.out (by kernel_rfl)) (by decide) (fun K hK => ?_)
                            refine goes_ Try.func35 (by kernel_rfl) rfl #[.string a0, .int .i64 12, .int .i64 4] (by rfl) rfl rfl (by (try simp only [List.map_toArray, List.map_cons, List.map_nil]); first | done | rfl | (simp only [List.length_drop, List.length_take]; rfl)) ?_
                            with_reducible refine (weighbridgeref04_num.calls a0 12 4 t496 _ A17.out).mono ?_
                            rintro e w' ⟨rfl, ⟨nd, rfl⟩⟩
                            refine ⟨_, rfl, ?_⟩
                            refine hK.out _ _ trivial (fun hHeld => ?_)
                            clear hK K
                            refine norm_ (a' := ?_) ?_ ?_
                            rotate_left
                            · show Act.put _ (some 49) _ = _
                              simp only [Act.put, List.setIfInBounds_toArray, List.set_cons_zero, List.set_cons_succ, i64_w, i32_w]
                              rfl
                            refine pure_ (i := 14) (N := some 50) (v := ?_) (a' := ?_) #[true, true, true, true, true, true, true, true, true, true, true, true, true, true, true, true, false, false, true, true, true, false, true, false] rfl rfl (any_of HT_.out (by kernel_rfl)) (fun _ _ _ h => h) (Or.inl ⟨by rfl, ?_⟩) ?_ ?_
                            rotate_left
                            · intro w'
                              go_simp
                              with_reducible rfl
                            rotate_left
                            · simp only [Act.put, List.setIfInBounds_toArray, List.set_cons_zero, List.set_cons_succ, i64_w, i32_w]
                              rfl
                            exact norm_ (by first | (simp only [putAll, Act.put, List.setIfInBounds_toArray, List.set_cons_zero, List.set_cons_succ]; done) | (simp only [putAll, Act.put, List.setIfInBounds_toArray, List.set_cons_zero, List.set_cons_succ]; rfl)) (hJ1_3_9_11_13_22 (gb498) _ ⟨(by (with_reducible repeat (first | refine blk_drewN ?_ _ | refine blk_drew ?_ | refine blk_alloc ?_ _)); exact BK485.out), (by (with_reducible repeat (first | refine blk_drewN ?_ _ | refine blk_drew ?_ | refine blk_alloc ?_ _)); exact BK498.out), GW498.out, GE498.out, NB485_498.out, NB498_485.out, (by repeat (first | (with_reducible first | exact HB.out | apply below_alloc | apply pw_below_drewN | apply below_drew1 | refine below_set ?_ GE485.out | refine below_set ?_ GE498.out) | exact HB.out))⟩)
                        · skip
                          rintro _ w27 ⟨h0_, h1_⟩
                          have n0_ : Aside0 (w27.heap[gb485]? = some (.cells #[.int .i64 0, .int .i64 0, .int .i64 0, .int .i64 0, .int .i64 0, .int .i64 0, .int .u32 0, .int .u32 0, .string (⟨#[]⟩ : ByteArray)] 31 (0, 0))) := ⟨h0_⟩
                          have n1_ : Aside0 (Below w.heap.size w w27) := ⟨h1_⟩
                          clear BK485
                          clear HB
                          clear h0_ h1_
                          have BK485 := n0_
                          have HB := n1_
                          clear n0_ n1_
                          have hHeld := trivial
                          refine norm_ (a' := ?_) ?_ ?_
                          rotate_left
                          · simp only [putAll, Act.put, List.setIfInBounds_toArray, List.set_cons_zero, List.set_cons_succ]
                            rfl
                          refine two_ (i := 16) (j := 22) (Ni := some 52) (Nj := some 10) #[true, true, true, true, true, true, true, true, true, true, true, true, true, true, true, true, true, false, true, true, true, false, false, false] #[true, true, true, true, true, true, true, true, true, true, true, true, true, true, true, true, false, false, true, true, true, false, true, false] rfl rfl rfl rfl (two_of HT_.out (by kernel_rfl)) (by decide) (by decide) (fun K hK => ?_) (fun K hK => ?_)
                          · skip
                            refine goes_ Try.func35 (by kernel_rfl) rfl #[.string a0, .int .i64 16, .int .i64 4] (by rfl) rfl rfl (by (try simp only [List.map_toArray, List.map_cons, List.map_nil]); first | done | rfl | (simp only [List.length_drop, List.length_take]; rfl)) ?_
                            with_reducible refine (weighbridgeref04_num.calls a0 16 4 t497 _ A18.out).mono ?_
                            rintro e w' ⟨rfl, ⟨nd, rfl⟩⟩
                            refine ⟨_, rfl, ?_⟩
                            refine hK.out _ _ trivial (fun hHeld => ?_)
                            clear hK K
                            refine norm_ (a' := ?_) ?_ ?_
                            rotate_left
                            · show Act.put _ (some 52) _ = _
                              simp only [Act.put, List.setIfInBounds_toArray, List.set_cons_zero, List.set_cons_succ, i64_w, i32_w]
                              rfl
                            refine pure_ (i := 17) (N := some 53) (v := ?_) (a' := ?_) #[true, true, true, true, true, true, true, true, true, true, true, true, true, true, true, true, true, true, true, true, true, false, false, false] rfl rfl (any_of HT_.out (by kernel_rfl)) (fun _ _ _ h => h) (Or.inl ⟨by rfl, ?_⟩) ?_ ?_
                            rotate_left
                            · intro w'
                              go_simp
                              with_reducible rfl
                            rotate_left
                            · simp only [Act.put, List.setIfInBounds_toArray, List.set_cons_zero, List.set_cons_succ, i64_w, i32_w]
                              rfl
                            refine pure_ (i := 21) (N := some 57) (v := ?_) (a' := ?_) #[true, true, true, true, true, true, true, true, true, true, true, true, true, true, true, true, true, true, true, true, true, true, false, false] rfl rfl (any_of HT_.out (by kernel_rfl)) (fun _ _ _ h => h) (Or.inl ⟨by rfl, ?_⟩) ?_ ?_
                            rotate_left
                            · intro w'
                              go_simp
                              with_reducible rfl
                            rotate_left
                            · simp only [Act.put, List.setIfInBounds_toArray, List.set_cons_zero, List.set_cons_succ, i64_w, i32_w]
                              rfl
                            exact norm_ (by first | (simp only [putAll, Act.put, List.setIfInBounds_toArray, List.set_cons_zero, List.set_cons_succ]; done) | (simp only [putAll, Act.put, List.setIfInBounds_toArray, List.set_cons_zero, List.set_cons_succ]; rfl)) (hJ1_3_9_11_13_16 () _ ⟨(by (with_reducible repeat (first | refine blk_drewN ?_ _ | refine blk_drew ?_ | refine blk_alloc ?_ _)); exact BK485.out), (by repeat (first | (with_reducible first | exact HB.out | apply below_alloc | apply pw_below_drewN | apply below_drew1 | refine below_set ?_ GE485.out) | exact HB.out))⟩)
                          · skip
                            refine box_step ?hg (N := 10) ?hd (cs := #[.int .i64 0, .int .i64 0, .int .i64 0, .int .i64 0, .int .i64 0, .int .i64 0, .int .u32 0, .int .u32 0, .string (⟨#[]⟩ : ByteArray)]) (t := 31) ?hr ?_; (case hd => rfl); (case hg => rfl); (case hr => first | (go_simp; done) | (go_simp; rfl))
                            intro gb498 hg w28 hbox hb
                            have n0_ := Aside0.mk (blk_below (g := gb485) (o := .cells #[.int .i64 0, .int .i64 0, .int .i64 0, .int .i64 0, .int .i64 0, .int .i64 0, .int .u32 0, .int .u32 0, .string (⟨#[]⟩ : ByteArray)] 31 (0, 0)) (by (with_reducible repeat (first | refine blk_drewN ?_ _ | refine blk_drew ?_ | refine blk_alloc ?_ _)); exact BK485.out) hb)
                            have n1_ := Aside0.mk (below_step (by repeat (first | (with_reducible first | exact HB.out | apply below_alloc | apply pw_below_drewN | apply below_drew1 | refine below_set ?_ GE485.out) | exact HB.out)) hb)
                            have n2_ := Aside0.mk (hbox)
                            have n3_ := Aside0.mk ((by rw [hg]; exact (below_size (by repeat (first | (with_reducible first | exact HB.out | apply below_alloc | apply pw_below_drewN | apply below_drew1 | refine below_set ?_ GE485.out) | exact HB.out))) : w.heap.size ≤ gb498))
                            have n4_ := Aside0.mk ((by rw [hg]; exact (below_size (by repeat (first | (with_reducible first | exact HB.out | apply below_alloc | apply pw_below_drewN | apply below_drew1 | refine below_set ?_ GE485.out) | exact HB.out))) : w.heap.size ≤ gb498))
                            have n5_ := Aside0.mk ((by rw [hg]; exact Nat.ne_of_lt (blk_lt (g := gb485) (o := .cells #[.int .i64 0, .int .i64 0, .int .i64 0, .int .i64 0, .int .i64 0, .int .i64 0, .int .u32 0, .int .u32 0, .string (⟨#[]⟩ : ByteArray)] 31 (0, 0)) (by (with_reducible repeat (first | refine blk_drewN ?_ _ | refine blk_drew ?_ | refine blk_alloc ?_ _)); exact BK485.out)) : gb485 ≠ gb498))
                            have n6_ := Aside0.mk ((by rw [hg]; exact Nat.ne_of_gt (blk_lt (g := gb485) (o := .cells #[.int .i64 0, .int .i64 0, .int .i64 0, .int .i64 0, .int .i64 0, .int .i64 0, .int .u32 0, .int .u32 0, .string (⟨#[]⟩ : ByteArray)] 31 (0, 0)) (by (with_reducible repeat (first | refine blk_drewN ?_ _ | refine blk_drew ?_ | refine blk_alloc ?_ _)); exact BK485.out)) : gb498 ≠ gb485))
                            clear BK485
                            clear HB
                            have BK485 := n0_
                            have HB := n1_
                            have BK498 := n2_
                            have GW498 := n3_
                            have GE498 := n4_
                            have NB485_498 := n5_
                            have NB498_485 := n6_
                            clear n0_ n1_ n2_ n3_ n4_ n5_ n6_
                            clear hb hbox hg
                            refine hK.out _ _ trivial (fun hHeld => ?_)
                            clear hK K
                            refine norm_ (a' := ?_) ?_ ?_
                            rotate_left
                            · show Act.put _ (some 10) _ = _
                              simp only [Act.put, List.setIfInBounds_toArray, List.set_cons_zero, List.set_cons_succ, i64_w, i32_w]
                              rfl
                            exact norm_ (by first | (simp only [putAll, Act.put, List.setIfInBounds_toArray, List.set_cons_zero, List.set_cons_succ]; done) | (simp only [putAll, Act.put, List.setIfInBounds_toArray, List.set_cons_zero, List.set_cons_succ]; rfl)) (hJ1_3_9_11_13_22 (gb498) _ ⟨(by (with_reducible repeat (first | refine blk_drewN ?_ _ | refine blk_drew ?_ | refine blk_alloc ?_ _)); exact BK485.out), (by (with_reducible repeat (first | refine blk_drewN ?_ _ | refine blk_drew ?_ | refine blk_alloc ?_ _)); exact BK498.out), GW498.out, GE498.out, NB485_498.out, NB498_485.out, (by repeat (first | (with_reducible first | exact HB.out | apply below_alloc | apply pw_below_drewN | apply below_drew1 | refine below_set ?_ GE485.out | refine below_set ?_ GE498.out) | exact HB.out))⟩)
                      · skip
                        rintro gb498 w28 ⟨h0_, h1_, h2_, h3_, h4_, h5_, h6_⟩
                        have n0_ : Aside0 (w28.heap[gb485]? = some (.cells #[.int .i64 0, .int .i64 0, .int .i64 0, .int .i64 0, .int .i64 0, .int .i64 0, .int .u32 0, .int .u32 0, .string (⟨#[]⟩ : ByteArray)] 31 (0, 0))) := ⟨h0_⟩
                        have n1_ : Aside0 (w28.heap[gb498]? = some (.cells #[.int .i64 0, .int .i64 0, .int .i64 0, .int .i64 0, .int .i64 0, .int .i64 0, .int .u32 0, .int .u32 0, .string (⟨#[]⟩ : ByteArray)] 31 (0, 0))) := ⟨h1_⟩
                        have n2_ : Aside0 (w.heap.size ≤ gb498) := ⟨h2_⟩
                        have n3_ : Aside0 (w.heap.size ≤ gb498) := ⟨h3_⟩
                        have n4_ : Aside0 (gb485 ≠ gb498) := ⟨h4_⟩
                        have n5_ : Aside0 (gb498 ≠ gb485) := ⟨h5_⟩
                        have n6_ : Aside0 (Below w.heap.size w w28) := ⟨h6_⟩
                        clear BK485
                        clear HB
                        clear h0_ h1_ h2_ h3_ h4_ h5_ h6_
                        have BK485 := n0_
                        have BK498 := n1_
                        have GW498 := n2_
                        have GE498 := n3_
                        have NB485_498 := n4_
                        have NB498_485 := n5_
                        have HB := n6_
                        clear n0_ n1_ n2_ n3_ n4_ n5_ n6_
                        have hHeld := trivial
                        refine norm_ (a' := ?_) ?_ ?_
                        rotate_left
                        · simp only [putAll, Act.put, List.setIfInBounds_toArray, List.set_cons_zero, List.set_cons_succ]
                          rfl
                        refine one_ (i := 16) (N := some 52) #[true, true, true, true, true, true, true, true, true, true, true, true, true, true, true, true, true, false, true, true, true, false, true, false] rfl rfl (one_of HT_.out (by kernel_rfl)) (by decide) (fun K hK => ?_)
                        refine goes_ Try.func35 (by kernel_rfl) rfl #[.string a0, .int .i64 16, .int .i64 4] (by rfl) rfl rfl (by (try simp only [List.map_toArray, List.map_cons, List.map_nil]); first | done | rfl | (simp only [List.length_drop, List.length_take]; rfl)) ?_
                        with_reducible refine (weighbridgeref04_num.calls a0 16 4 t497 _ A18.out).mono ?_
                        rintro e w' ⟨rfl, ⟨nd, rfl⟩⟩
                        refine ⟨_, rfl, ?_⟩
                        refine hK.out _ _ trivial (fun hHeld => ?_)
                        clear hK K
                        refine norm_ (a' := ?_) ?_ ?_
                        rotate_left
                        · show Act.put _ (some 52) _ = _
                          simp only [Act.put, List.setIfInBounds_toArray, List.set_cons_zero, List.set_cons_succ, i64_w, i32_w]
                          rfl
                        refine pure_ (i := 17) (N := some 53) (v := ?_) (a' := ?_) #[true, true, true, true, true, true, true, true, true, true, true, true, true, true, true, true, true, true, true, true, true, false, true, false] rfl rfl (any_of HT_.out (by kernel_rfl)) (fun _ _ _ h => h) (Or.inl ⟨by rfl, ?_⟩) ?_ ?_
                        rotate_left
                        · intro w'
                          go_simp
                          with_reducible rfl
                        rotate_left
                        · simp only [Act.put, List.setIfInBounds_toArray, List.set_cons_zero, List.set_cons_succ, i64_w, i32_w]
                          rfl
                        refine pure_ (i := 21) (N := some 57) (v := ?_) (a' := ?_) #[true, true, true, true, true, true, true, true, true, true, true, true, true, true, true, true, true, true, true, true, true, true, true, false] rfl rfl (any_of HT_.out (by kernel_rfl)) (fun _ _ _ h => h) (Or.inl ⟨by rfl, ?_⟩) ?_ ?_
                        rotate_left
                        · intro w'
                          go_simp
                          with_reducible rfl
                        rotate_left
                        · simp only [Act.put, List.setIfInBounds_toArray, List.set_cons_zero, List.set_cons_succ, i64_w, i32_w]
                          rfl
                        exact norm_ (by first | (simp only [putAll, Act.put, List.setIfInBounds_toArray, List.set_cons_zero, List.set_cons_succ]; done) | (simp only [putAll, Act.put, List.setIfInBounds_toArray, List.set_cons_zero, List.set_cons_succ]; rfl)) (hJ1_3_9_11_13_16_22 (gb498) _ ⟨(by (with_reducible repeat (first | refine blk_drewN ?_ _ | refine blk_drew ?_ | refine blk_alloc ?_ _)); exact BK485.out), (by (with_reducible repeat (first | refine blk_drewN ?_ _ | refine blk_drew ?_ | refine blk_alloc ?_ _)); exact BK498.out), GW498.out, GE498.out, NB485_498.out, NB498_485.out, (by repeat (first | (with_reducible first | exact HB.out | apply below_alloc | apply pw_below_drewN | apply below_drew1 | refine below_set ?_ GE485.out | refine below_set ?_ GE498.out) | exact HB.out))⟩)
                    · skip
                      rintro _ w27 ⟨h0_, h1_⟩
                      have n0_ : Aside0 (w27.heap[gb485]? = some (.cells #[.int .i64 0, .int .i64 0, .int .i64 0, .int .i64 0, .int .i64 0, .int .i64 0, .int .u32 0, .int .u32 0, .string (⟨#[]⟩ : ByteArray)] 31 (0, 0))) := ⟨h0_⟩
                      have n1_ : Aside0 (Below w.heap.size w w27) := ⟨h1_⟩
                      clear BK485
                      clear HB
                      clear h0_ h1_
                      have BK485 := n0_
                      have HB := n1_
                      clear n0_ n1_
                      have hHeld := trivial
                      refine norm_ (a' := ?_) ?_ ?_
                      rotate_left
                      · simp only [putAll, Act.put, List.setIfInBounds_toArray, List.set_cons_zero, List.set_cons_succ]
                        rfl
                      refine one_ (i := 22) (N := some 10) #[true, true, true, true, true, true, true, true, true, true, true, true, true, true, true, true, true, true, true, true, true, true, true, false] rfl rfl (one_of HT_.out (by kernel_rfl)) (by decide) (fun K hK => ?_)
                      refine box_step ?hg (N := 10) ?hd (cs := #[.int .i64 0, .int .i64 0, .int .i64 0, .int .i64 0, .int .i64 0, .int .i64 0, .int .u32 0, .int .u32 0, .string (⟨#[]⟩ : ByteArray)]) (t := 31) ?hr ?_; (case hd => rfl); (case hg => rfl); (case hr => first | (go_simp; done) | (go_simp; rfl))
                      intro gb498 hg w28 hbox hb
                      have n0_ := Aside0.mk (blk_below (g := gb485) (o := .cells #[.int .i64 0, .int .i64 0, .int .i64 0, .int .i64 0, .int .i64 0, .int .i64 0, .int .u32 0, .int .u32 0, .string (⟨#[]⟩ : ByteArray)] 31 (0, 0)) (by (with_reducible repeat (first | refine blk_drewN ?_ _ | refine blk_drew ?_ | refine blk_alloc ?_ _)); exact BK485.out) hb)
                      have n1_ := Aside0.mk (below_step (by repeat (first | (with_reducible first | exact HB.out | apply below_alloc | apply pw_below_drewN | apply below_drew1 | refine below_set ?_ GE485.out) | exact HB.out)) hb)
                      have n2_ := Aside0.mk (hbox)
                      have n3_ := Aside0.mk ((by rw [hg]; exact (below_size (by repeat (first | (with_reducible first | exact HB.out | apply below_alloc | apply pw_below_drewN | apply below_drew1 | refine below_set ?_ GE485.out) | exact HB.out))) : w.heap.size ≤ gb498))
                      have n4_ := Aside0.mk ((by rw [hg]; exact (below_size (by repeat (first | (with_reducible first | exact HB.out | apply below_alloc | apply pw_below_drewN | apply below_drew1 | refine below_set ?_ GE485.out) | exact HB.out))) : w.heap.size ≤ gb498))
                      have n5_ := Aside0.mk ((by rw [hg]; exact Nat.ne_of_lt (blk_lt (g := gb485) (o := .cells #[.int .i64 0, .int .i64 0, .int .i64 0, .int .i64 0, .int .i64 0, .int .i64 0, .int .u32 0, .int .u32 0, .string (⟨#[]⟩ : ByteArray)] 31 (0, 0)) (by (with_reducible repeat (first | refine blk_drewN ?_ _ | refine blk_drew ?_ | refine blk_alloc ?_ _)); exact BK485.out)) : gb485 ≠ gb498))
                      have n6_ := Aside0.mk ((by rw [hg]; exact Nat.ne_of_gt (blk_lt (g := gb485) (o := .cells #[.int .i64 0, .int .i64 0, .int .i64 0, .int .i64 0, .int .i64 0, .int .i64 0, .int .u32 0, .int .u32 0, .string (⟨#[]⟩ : ByteArray)] 31 (0, 0)) (by (with_reducible repeat (first | refine blk_drewN ?_ _ | refine blk_drew ?_ | refine blk_alloc ?_ _)); exact BK485.out)) : gb498 ≠ gb485))
                      clear BK485
                      clear HB
                      have BK485 := n0_
                      have HB := n1_
                      have BK498 := n2_
                      have GW498 := n3_
                      have GE498 := n4_
                      have NB485_498 := n5_
                      have NB498_485 := n6_
                      clear n0_ n1_ n2_ n3_ n4_ n5_ n6_
                      clear hb hbox hg
                      refine hK.out _ _ trivial (fun hHeld => ?_)
                      clear hK K
                      refine norm_ (a' := ?_) ?_ ?_
                      rotate_left
                      · show Act.put _ (some 10) _ = _
                        simp only [Act.put, List.setIfInBounds_toArray, List.set_cons_zero, List.set_cons_succ, i64_w, i32_w]
                        rfl
                      exact norm_ (by first | (simp only [putAll, Act.put, List.setIfInBounds_toArray, List.set_cons_zero, List.set_cons_succ]; done) | (simp only [putAll, Act.put, List.setIfInBounds_toArray, List.set_cons_zero, List.set_cons_succ]; rfl)) (hJ1_3_9_11_13_16_22 (gb498) _ ⟨(by (with_reducible repeat (first | refine blk_drewN ?_ _ | refine blk_drew ?_ | refine blk_alloc ?_ _)); exact BK485.out), (by (with_reducible repeat (first | refine blk_drewN ?_ _ | refine blk_drew ?_ | refine blk_alloc ?_ _)); exact BK498.out), GW498.out, GE498.out, NB485_498.out, NB498_485.out, (by repeat (first | (with_reducible first | exact HB.out | apply below_alloc | apply pw_below_drewN | apply below_drew1 | refine below_set ?_ GE485.out | refine below_set ?_ GE498.out) | exact HB.out))⟩)
                  rintro gb498 w28 ⟨h0_, h1_, h2_, h3_, h4_, h5_, h6_⟩
                  have n0_ : Aside0 (w28.heap[gb485]? = some (.cells #[.int .i64 0, .int .i64 0, .int .i64 0, .int .i64 0, .int .i64 0, .int .i64 0, .int .u32 0, .int .u32 0, .string (⟨#[]⟩ : ByteArray)] 31 (0, 0))) := ⟨h0_⟩
                  have n1_ : Aside0 (w28.heap[gb498]? = some (.cells #[.int .i64 0, .int .i64 0, .int .i64 0, .int .i64 0, .int .i64 0, .int .i64 0, .int .u32 0, .int .u32 0, .string (⟨#[]⟩ : ByteArray)] 31 (0, 0))) := ⟨h1_⟩
                  have n2_ : Aside0 (w.heap.size ≤ gb498) := ⟨h2_⟩
                  have n3_ : Aside0 (w.heap.size ≤ gb498) := ⟨h3_⟩
                  have n4_ : Aside0 (gb485 ≠ gb498) := ⟨h4_⟩
                  have n5_ : Aside0 (gb498 ≠ gb485) := ⟨h5_⟩
                  have n6_ : Aside0 (Below w.heap.size w w28) := ⟨h6_⟩
                  clear BK485
                  clear HB
                  clear h0_ h1_ h2_ h3_ h4_ h5_ h6_
                  have BK485 := n0_
                  have BK498 := n1_
                  have GW498 := n2_
                  have GE498 := n3_
                  have NB485_498 := n4_
                  have NB498_485 := n5_
                  have HB := n6_
                  clear n0_ n1_ n2_ n3_ n4_ n5_ n6_
                  have hHeld := trivial
                  refine norm_ (a' := ?_) ?_ ?_
                  rotate_left
                  · simp only [putAll, Act.put, List.setIfInBounds_toArray, List.set_cons_zero, List.set_cons_succ]
                    rfl
                  refine one_ (i := 23) (N := none) #[true, true, true, true, true, true, true, true, true, true, true, true, true, true, true, true, true, true, true, true, true, true, true, true] rfl rfl (one_of HT_.out (by kernel_rfl)) (by decide) (fun K hK => ?_)
                  have hs29 : w28.cell? ⟨gb498, 0, none⟩ = some (.int .i64 0) := (blk_cell BK498.out 0).trans rfl
                  have hfs29 := blk_frozen BK498.out 0
                  have hns29_0 := NB485_498.out
                  have hms29_0 := NB498_485.out
                  have hs30 : w28.cell? ⟨gb498, 1, none⟩ = some (.int .i64 0) := (blk_cell BK498.out 1).trans rfl
                  have hfs30 := blk_frozen BK498.out 1
                  have hns30_0 := NB485_498.out
                  have hms30_0 := NB498_485.out
                  have hs31 : w28.cell? ⟨gb498, 2, none⟩ = some (.int .i64 0) := (blk_cell BK498.out 2).trans rfl
                  have hfs31 := blk_frozen BK498.out 2
                  have hns31_0 := NB485_498.out
                  have hms31_0 := NB498_485.out
                  have hs32 : w28.cell? ⟨gb498, 3, none⟩ = some (.int .i64 0) := (blk_cell BK498.out 3).trans rfl
                  have hfs32 := blk_frozen BK498.out 3
                  have hns32_0 := NB485_498.out
                  have hms32_0 := NB498_485.out
                  have hs33 : w28.cell? ⟨gb498, 4, none⟩ = some (.int .i64 0) := (blk_cell BK498.out 4).trans rfl
                  have hfs33 := blk_frozen BK498.out 4
                  have hns33_0 := NB485_498.out
                  have hms33_0 := NB498_485.out
                  have hs34 : w28.cell? ⟨gb498, 5, none⟩ = some (.int .i64 0) := (blk_cell BK498.out 5).trans rfl
                  have hfs34 := blk_frozen BK498.out 5
                  have hns34_0 := NB485_498.out
                  have hms34_0 := NB498_485.out
                  have hs35 : w28.cell? ⟨gb498, 6, none⟩ = some (.int .u32 0) := (blk_cell BK498.out 6).trans rfl
                  have hfs35 := blk_frozen BK498.out 6
                  have hns35_0 := NB485_498.out
                  have hms35_0 := NB498_485.out
                  have hs36 : w28.cell? ⟨gb498, 7, none⟩ = some (.int .u32 0) := (blk_cell BK498.out 7).trans rfl
                  have hfs36 := blk_frozen BK498.out 7
                  have hns36_0 := NB485_498.out
                  have hms36_0 := NB498_485.out
                  have hs37 : w28.cell? ⟨gb498, 8, none⟩ = some (.string (⟨#[]⟩ : ByteArray)) := (blk_cell BK498.out 8).trans rfl
                  have hfs37 := blk_frozen BK498.out 8
                  have hns37_0 := NB485_498.out
                  have hms37_0 := NB498_485.out
                  refine skip_ (w1 := ?_) (by rfl) rfl ?_ ?_
                  rotate_left
                  · go_simp
                    rfl
                  refine hK.out _ _ trivial (fun hHeld => ?_)
                  clear hK K
                  refine done_ (done_of HT_.out (by kernel_rfl)) ?_
                  try go_wp2
                  have n0_ : Aside0 ((((((((((w28.setCell ⟨gb498, 0, none⟩ (.int .i64 t492)).setCell ⟨gb498, 1, none⟩ (.int .i64 t493)).setCell ⟨gb498, 2, none⟩ (.int .i64 (wrap64 (Int.tdiv t491 8192)))).setCell ⟨gb498, 3, none⟩ (.int .i64 (Int.tmod t491 8192))).setCell ⟨gb498, 4, none⟩ (.int .i64 t494)).setCell ⟨gb498, 5, none⟩ (.int .i64 t495)).setCell ⟨gb498, 6, none⟩ (.int .u32 ((t496) % 4294967296))).setCell ⟨gb498, 7, none⟩ (.int .u32 ((t497) % 4294967296))).setCell ⟨gb498, 8, none⟩ (.string (a0.extract 20 (t486 : Int).toNat))).heap[gb485]? = some (.cells #[.int .i64 0, .int .i64 0, .int .i64 0, .int .i64 0, .int .i64 0, .int .i64 0, .int .u32 0, .int .u32 0, .string (⟨#[]⟩ : ByteArray)] 31 (0, 0))) := ⟨by (with_reducible repeat (first | refine blk_drewN ?_ _ | refine blk_drew ?_ | refine blk_alloc ?_ _)); refine blk_far ?_ NB485_498.out _; (with_reducible repeat (first | refine blk_drewN ?_ _ | refine blk_drew ?_ | refine blk_alloc ?_ _)); refine blk_far ?_ NB485_498.out _; (with_reducible repeat (first | refine blk_drewN ?_ _ | refine blk_drew ?_ | refine blk_alloc ?_ _)); refine blk_far ?_ NB485_498.out _; (with_reducible repeat (first | refine blk_drewN ?_ _ | refine blk_drew ?_ | refine blk_alloc ?_ _)); refine blk_far ?_ NB485_498.out _; (with_reducible repeat (first | refine blk_drewN ?_ _ | refine blk_drew ?_ | refine blk_alloc ?_ _)); refine blk_far ?_ NB485_498.out _; (with_reducible repeat (first | refine blk_drewN ?_ _ | refine blk_drew ?_ | refine blk_alloc ?_ _)); refine blk_far ?_ NB485_498.out _; (with_reducible repeat (first | refine blk_drewN ?_ _ | refine blk_drew ?_ | refine blk_alloc ?_ _)); refine blk_far ?_ NB485_498.out _; (with_reducible repeat (first | refine blk_drewN ?_ _ | refine blk_drew ?_ | refine blk_alloc ?_ _)); refine blk_far ?_ NB485_498.out _; (with_reducible repeat (first | refine blk_drewN ?_ _ | refine blk_drew ?_ | refine blk_alloc ?_ _)); refine blk_far ?_ NB485_498.out _; (with_reducible repeat (first | refine blk_drewN ?_ _ | refine blk_drew ?_ | refine blk_alloc ?_ _)); exact BK485.out⟩
                  have n1_ : Aside0 ((((((((((w28.setCell ⟨gb498, 0, none⟩ (.int .i64 t492)).setCell ⟨gb498, 1, none⟩ (.int .i64 t493)).setCell ⟨gb498, 2, none⟩ (.int .i64 (wrap64 (Int.tdiv t491 8192)))).setCell ⟨gb498, 3, none⟩ (.int .i64 (Int.tmod t491 8192))).setCell ⟨gb498, 4, none⟩ (.int .i64 t494)).setCell ⟨gb498, 5, none⟩ (.int .i64 t495)).setCell ⟨gb498, 6, none⟩ (.int .u32 ((t496) % 4294967296))).setCell ⟨gb498, 7, none⟩ (.int .u32 ((t497) % 4294967296))).setCell ⟨gb498, 8, none⟩ (.string (a0.extract 20 (t486 : Int).toNat))).heap[gb498]? = some (.cells #[.int .i64 t492, .int .i64 t493, .int .i64 (wrap64 (Int.tdiv t491 8192)), .int .i64 (Int.tmod t491 8192), .int .i64 t494, .int .i64 t495, .int .u32 ((t496) % 4294967296), .int .u32 ((t497) % 4294967296), .string (a0.extract 20 (t486 : Int).toNat)] 31 (0, 0))) := ⟨by (with_reducible repeat (first | refine blk_drewN ?_ _ | refine blk_drew ?_ | refine blk_alloc ?_ _)); refine blk_put (cs := #[.int .i64 t492, .int .i64 t493, .int .i64 (wrap64 (Int.tdiv t491 8192)), .int .i64 (Int.tmod t491 8192), .int .i64 t494, .int .i64 t495, .int .u32 ((t496) % 4294967296), .int .u32 ((t497) % 4294967296), .string (⟨#[]⟩ : ByteArray)]) ?_ 8 _ rfl; (with_reducible repeat (first | refine blk_drewN ?_ _ | refine blk_drew ?_ | refine blk_alloc ?_ _)); refine blk_put (cs := #[.int .i64 t492, .int .i64 t493, .int .i64 (wrap64 (Int.tdiv t491 8192)), .int .i64 (Int.tmod t491 8192), .int .i64 t494, .int .i64 t495, .int .u32 ((t496) % 4294967296), .int .u32 0, .string (⟨#[]⟩ : ByteArray)]) ?_ 7 _ rfl; (with_reducible repeat (first | refine blk_drewN ?_ _ | refine blk_drew ?_ | refine blk_alloc ?_ _)); refine blk_put (cs := #[.int .i64 t492, .int .i64 t493, .int .i64 (wrap64 (Int.tdiv t491 8192)), .int .i64 (Int.tmod t491 8192), .int .i64 t494, .int .i64 t495, .int .u32 0, .int .u32 0, .string (⟨#[]⟩ : ByteArray)]) ?_ 6 _ rfl; (with_reducible repeat (first | refine blk_drewN ?_ _ | refine blk_drew ?_ | refine blk_alloc ?_ _)); refine blk_put (cs := #[.int .i64 t492, .int .i64 t493, .int .i64 (wrap64 (Int.tdiv t491 8192)), .int .i64 (Int.tmod t491 8192), .int .i64 t494, .int .i64 0, .int .u32 0, .int .u32 0, .string (⟨#[]⟩ : ByteArray)]) ?_ 5 _ rfl; (with_reducible repeat (first | refine blk_drewN ?_ _ | refine blk_drew ?_ | refine blk_alloc ?_ _)); refine blk_put (cs := #[.int .i64 t492, .int .i64 t493, .int .i64 (wrap64 (Int.tdiv t491 8192)), .int .i64 (Int.tmod t491 8192), .int .i64 0, .int .i64 0, .int .u32 0, .int .u32 0, .string (⟨#[]⟩ : ByteArray)]) ?_ 4 _ rfl; (with_reducible repeat (first | refine blk_drewN ?_ _ | refine blk_drew ?_ | refine blk_alloc ?_ _)); refine blk_put (cs := #[.int .i64 t492, .int .i64 t493, .int .i64 (wrap64 (Int.tdiv t491 8192)), .int .i64 0, .int .i64 0, .int .i64 0, .int .u32 0, .int .u32 0, .string (⟨#[]⟩ : ByteArray)]) ?_ 3 _ rfl; (with_reducible repeat (first | refine blk_drewN ?_ _ | refine blk_drew ?_ | refine blk_alloc ?_ _)); refine blk_put (cs := #[.int .i64 t492, .int .i64 t493, .int .i64 0, .int .i64 0, .int .i64 0, .int .i64 0, .int .u32 0, .int .u32 0, .string (⟨#[]⟩ : ByteArray)]) ?_ 2 _ rfl; (with_reducible repeat (first | refine blk_drewN ?_ _ | refine blk_drew ?_ | refine blk_alloc ?_ _)); refine blk_put (cs := #[.int .i64 t492, .int .i64 0, .int .i64 0, .int .i64 0, .int .i64 0, .int .i64 0, .int .u32 0, .int .u32 0, .string (⟨#[]⟩ : ByteArray)]) ?_ 1 _ rfl; (with_reducible repeat (first | refine blk_drewN ?_ _ | refine blk_drew ?_ | refine blk_alloc ?_ _)); refine blk_put (cs := #[.int .i64 0, .int .i64 0, .int .i64 0, .int .i64 0, .int .i64 0, .int .i64 0, .int .u32 0, .int .u32 0, .string (⟨#[]⟩ : ByteArray)]) ?_ 0 _ rfl; (with_reducible repeat (first | refine blk_drewN ?_ _ | refine blk_drew ?_ | refine blk_alloc ?_ _)); exact BK498.out⟩
                  have n2_ : Aside0 (Below w.heap.size w (((((((((w28.setCell ⟨gb498, 0, none⟩ (.int .i64 t492)).setCell ⟨gb498, 1, none⟩ (.int .i64 t493)).setCell ⟨gb498, 2, none⟩ (.int .i64 (wrap64 (Int.tdiv t491 8192)))).setCell ⟨gb498, 3, none⟩ (.int .i64 (Int.tmod t491 8192))).setCell ⟨gb498, 4, none⟩ (.int .i64 t494)).setCell ⟨gb498, 5, none⟩ (.int .i64 t495)).setCell ⟨gb498, 6, none⟩ (.int .u32 ((t496) % 4294967296))).setCell ⟨gb498, 7, none⟩ (.int .u32 ((t497) % 4294967296))).setCell ⟨gb498, 8, none⟩ (.string (a0.extract 20 (t486 : Int).toNat)))) := ⟨by repeat (first | (with_reducible first | exact HB.out | apply below_alloc | apply pw_below_drewN | apply below_drew1 | refine below_set ?_ GE485.out | refine below_set ?_ GE498.out) | exact HB.out)⟩
                  (try clear BK485)
                  (try clear BK498)
                  (try clear HB)
                  generalize (((((((((w28.setCell ⟨gb498, 0, none⟩ (.int .i64 t492)).setCell ⟨gb498, 1, none⟩ (.int .i64 t493)).setCell ⟨gb498, 2, none⟩ (.int .i64 (wrap64 (Int.tdiv t491 8192)))).setCell ⟨gb498, 3, none⟩ (.int .i64 (Int.tmod t491 8192))).setCell ⟨gb498, 4, none⟩ (.int .i64 t494)).setCell ⟨gb498, 5, none⟩ (.int .i64 t495)).setCell ⟨gb498, 6, none⟩ (.int .u32 ((t496) % 4294967296))).setCell ⟨gb498, 7, none⟩ (.int .u32 ((t497) % 4294967296))).setCell ⟨gb498, 8, none⟩ (.string (a0.extract 20 (t486 : Int).toNat))) = w38 at n0_ n1_ n2_ ⊢
                  have BK485 := n0_
                  have BK498 := n1_
                  have HB := n2_
                  clear n0_ n1_ n2_
                  have n0_ := Aside0.mk (blk_drew BK485.out)
                  have n1_ := Aside0.mk (blk_drew BK498.out)
                  have n2_ := Aside0.mk (below_drew1 HB.out)
                  clear BK485
                  clear BK498
                  clear HB
                  have BK485 := n0_
                  have BK498 := n1_
                  have HB := n2_
                  clear n0_ n1_ n2_
                  refine start_ (n := 8) (S := fun w' => w'.cell? ⟨gb498, 0, none⟩ = some (.int .i64 t492) ∧ w'.cell? ⟨gb498, 1, none⟩ = some (.int .i64 t493) ∧ w'.cell? ⟨gb498, 2, none⟩ = some (.int .i64 (wrap64 (Int.tdiv t491 8192))) ∧ w'.cell? ⟨gb498, 3, none⟩ = some (.int .i64 (Int.tmod t491 8192)) ∧ w'.cell? ⟨gb498, 4, none⟩ = some (.int .i64 t494) ∧ w'.cell? ⟨gb498, 5, none⟩ = some (.int .i64 t495) ∧ w'.cell? ⟨gb498, 6, none⟩ = some (.int .u32 ((t496) % 4294967296)) ∧ w'.cell? ⟨gb498, 7, none⟩ = some (.int .u32 ((t497) % 4294967296)) ∧ w'.cell? ⟨gb498, 8, none⟩ = some (.string (a0.extract 20 (t486 : Int).toNat))) (ds := []) #[false, false, false, false, false, false, false, false] (by kernel_rfl) rfl rfl ⟨(blk_cell BK498.out 0).trans rfl, (blk_cell BK498.out 1).trans rfl, (blk_cell BK498.out 2).trans rfl, (blk_cell BK498.out 3).trans rfl, (blk_cell BK498.out 4).trans rfl, (blk_cell BK498.out 5).trans rfl, (blk_cell BK498.out 6).trans rfl, (blk_cell BK498.out 7).trans rfl, (blk_cell BK498.out 8).trans rfl⟩ (fun hHeld => ?_); refine with_tabW weighbridgeref04_Parse_p.tab11 weighbridgeref04_Parse_p.bits11 (fun HT_ HW_ => ?_)
                  generalize w38.drew = w39 at BK485 BK498 HB hHeld ⊢
                  refine pure_ (i := 1) (N := some 59) (v := ?_) (a' := ?_) #[false, true, false, false, false, false, false, false] rfl rfl (any_of HT_.out (by kernel_rfl)) (fun _ _ _ h => h) (Or.inl ⟨by rfl, ?_⟩) ?_ ?_
                  rotate_left
                  · intro w'
                    go_simp
                    with_reducible rfl
                  rotate_left
                  · simp only [Act.put, List.setIfInBounds_toArray, List.set_cons_zero, List.set_cons_succ, i64_w, i32_w]
                    rfl
                  refine pure_ (i := 2) (N := some 60) (v := ?_) (a' := ?_) #[false, true, true, false, false, false, false, false] rfl rfl (any_of HT_.out (by kernel_rfl)) (fun _ _ _ h => h) (Or.inl ⟨by rfl, ?_⟩) ?_ ?_
                  rotate_left
                  · intro w'
                    go_simp
                    with_reducible rfl
                  rotate_left
                  · simp only [Act.put, List.setIfInBounds_toArray, List.set_cons_zero, List.set_cons_succ, i64_w, i32_w]
                    rfl
                  refine pure_ (i := 3) (N := some 61) (v := ?_) (a' := ?_) #[false, true, true, true, false, false, false, false] rfl rfl (any_of HT_.out (by kernel_rfl)) (fun _ _ _ h => h) (Or.inl ⟨by rfl, ?_⟩) ?_ ?_
                  rotate_left
                  · intro w'
                    go_simp
                    with_reducible rfl
                  rotate_left
                  · simp only [Act.put, List.setIfInBounds_toArray, List.set_cons_zero, List.set_cons_succ, i64_w, i32_w]
                    rfl
                  refine pure_ (i := 4) (N := some 62) (v := ?_) (a' := ?_) #[false, true, true, true, true, false, false, false] rfl rfl (any_of HT_.out (by kernel_rfl)) (fun _ _ _ h => h) (Or.inl ⟨by rfl, ?_⟩) ?_ ?_
                  rotate_left
                  · intro w'
                    go_simp
                    with_reducible rfl
                  rotate_left
                  · simp only [Act.put, List.setIfInBounds_toArray, List.set_cons_zero, List.set_cons_succ, i64_w, i32_w]
                    rfl
                  refine take_ (i := 0) (N := some 58) (v := ?_) (a' := ?_) #[true, true, true, true, true, false, false, false] rfl rfl (take_ofW HT_.out HW_.out (by kernel_rfl)) (fun _ _ _ h => h) (Or.inl ⟨by rfl, ?_⟩) hHeld ?_ ?_
                  rotate_left
                  · rintro w' ⟨s0, s1, s2, s3, s4, s5, s6, s7, s8⟩
                    go_simp
                    with_reducible rfl
                  rotate_left
                  · simp only [Act.put, List.setIfInBounds_toArray, List.set_cons_zero, List.set_cons_succ, i64_w, i32_w]
                    rfl
                  refine one_ (i := 5) (N := none) #[true, true, true, true, true, true, false, false] rfl rfl (one_of HT_.out (by kernel_rfl)) (by decide) (fun K hK => ?_)
                  have hs40 : w39.cell? ⟨gb485, 0, none⟩ = some (.int .i64 0) := (blk_cell BK485.out 0).trans rfl
                  have hfs40 := blk_frozen BK485.out 0
                  have hns40_1 := NB498_485.out
                  have hms40_1 := NB485_498.out
                  have hs41 : w39.cell? ⟨gb485, 1, none⟩ = some (.int .i64 0) := (blk_cell BK485.out 1).trans rfl
                  have hfs41 := blk_frozen BK485.out 1
                  have hns41_1 := NB498_485.out
                  have hms41_1 := NB485_498.out
                  have hs42 : w39.cell? ⟨gb485, 2, none⟩ = some (.int .i64 0) := (blk_cell BK485.out 2).trans rfl
                  have hfs42 := blk_frozen BK485.out 2
                  have hns42_1 := NB498_485.out
                  have hms42_1 := NB485_498.out
                  have hs43 : w39.cell? ⟨gb485, 3, none⟩ = some (.int .i64 0) := (blk_cell BK485.out 3).trans rfl
                  have hfs43 := blk_frozen BK485.out 3
                  have hns43_1 := NB498_485.out
                  have hms43_1 := NB485_498.out
                  have hs44 : w39.cell? ⟨gb485, 4, none⟩ = some (.int .i64 0) := (blk_cell BK485.out 4).trans rfl
                  have hfs44 := blk_frozen BK485.out 4
                  have hns44_1 := NB498_485.out
                  have hms44_1 := NB485_498.out
                  have hs45 : w39.cell? ⟨gb485, 5, none⟩ = some (.int .i64 0) := (blk_cell BK485.out 5).trans rfl
                  have hfs45 := blk_frozen BK485.out 5
                  have hns45_1 := NB498_485.out
                  have hms45_1 := NB485_498.out
                  have hs46 : w39.cell? ⟨gb485, 6, none⟩ = some (.int .u32 0) := (blk_cell BK485.out 6).trans rfl
                  have hfs46 := blk_frozen BK485.out 6
                  have hns46_1 := NB498_485.out
                  have hms46_1 := NB485_498.out
                  have hs47 : w39.cell? ⟨gb485, 7, none⟩ = some (.int .u32 0) := (blk_cell BK485.out 7).trans rfl
                  have hfs47 := blk_frozen BK485.out 7
                  have hns47_1 := NB498_485.out
                  have hms47_1 := NB485_498.out
                  have hs48 : w39.cell? ⟨gb485, 8, none⟩ = some (.string (⟨#[]⟩ : ByteArray)) := (blk_cell BK485.out 8).trans rfl
                  have hfs48 := blk_frozen BK485.out 8
                  have hns48_1 := NB498_485.out
                  have hms48_1 := NB485_498.out
                  refine skip_ (w1 := ?_) (by rfl) rfl ?_ ?_
                  rotate_left
                  · go_simp
                    rfl
                  refine hK.out _ _ ⟨((cell_far (p := ⟨gb485, _, none⟩) NB498_485.out _).trans (((cell_far (p := ⟨gb485, _, none⟩) NB498_485.out _).trans (((cell_far (p := ⟨gb485, _, none⟩) NB498_485.out _).trans (((cell_far (p := ⟨gb485, _, none⟩) NB498_485.out _).trans (((cell_far (p := ⟨gb485, _, none⟩) NB498_485.out _).trans (((cell_far (p := ⟨gb485, _, none⟩) NB498_485.out _).trans (((cell_far (p := ⟨gb485, _, none⟩) NB498_485.out _).trans (((cell_far (p := ⟨gb485, _, none⟩) NB498_485.out _).trans (((cell_far (p := ⟨gb485, _, none⟩) NB498_485.out _).trans (hHeld.1)))))))))))))))))), ((cell_far (p := ⟨gb485, _, none⟩) NB498_485.out _).trans (((cell_far (p := ⟨gb485, _, none⟩) NB498_485.out _).trans (((cell_far (p := ⟨gb485, _, none⟩) NB498_485.out _).trans (((cell_far (p := ⟨gb485, _, none⟩) NB498_485.out _).trans (((cell_far (p := ⟨gb485, _, none⟩) NB498_485.out _).trans (((cell_far (p := ⟨gb485, _, none⟩) NB498_485.out _).trans (((cell_far (p := ⟨gb485, _, none⟩) NB498_485.out _).trans (((cell_far (p := ⟨gb485, _, none⟩) NB498_485.out _).trans (((cell_far (p := ⟨gb485, _, none⟩) NB498_485.out _).trans (hHeld.2.1)))))))))))))))))), ((cell_far (p := ⟨gb485, _, none⟩) NB498_485.out _).trans (((cell_far (p := ⟨gb485, _, none⟩) NB498_485.out _).trans (((cell_far (p := ⟨gb485, _, none⟩) NB498_485.out _).trans (((cell_far (p := ⟨gb485, _, none⟩) NB498_485.out _).trans (((cell_far (p := ⟨gb485, _, none⟩) NB498_485.out _).trans (((cell_far (p := ⟨gb485, _, none⟩) NB498_485.out _).trans (((cell_far (p := ⟨gb485, _, none⟩) NB498_485.out _).trans (((cell_far (p := ⟨gb485, _, none⟩) NB498_485.out _).trans (((cell_far (p := ⟨gb485, _, none⟩) NB498_485.out _).trans (hHeld.2.2.1)))))))))))))))))), ((cell_far (p := ⟨gb485, _, none⟩) NB498_485.out _).trans (((cell_far (p := ⟨gb485, _, none⟩) NB498_485.out _).trans (((cell_far (p := ⟨gb485, _, none⟩) NB498_485.out _).trans (((cell_far (p := ⟨gb485, _, none⟩) NB498_485.out _).trans (((cell_far (p := ⟨gb485, _, none⟩) NB498_485.out _).trans (((cell_far (p := ⟨gb485, _, none⟩) NB498_485.out _).trans (((cell_far (p := ⟨gb485, _, none⟩) NB498_485.out _).trans (((cell_far (p := ⟨gb485, _, none⟩) NB498_485.out _).trans (((cell_far (p := ⟨gb485, _, none⟩) NB498_485.out _).trans (hHeld.2.2.2.1)))))))))))))))))), ((cell_far (p := ⟨gb485, _, none⟩) NB498_485.out _).trans (((cell_far (p := ⟨gb485, _, none⟩) NB498_485.out _).trans (((cell_far (p := ⟨gb485, _, none⟩) NB498_485.out _).trans (((cell_far (p := ⟨gb485, _, none⟩) NB498_485.out _).trans (((cell_far (p := ⟨gb485, _, none⟩) NB498_485.out _).trans (((cell_far (p := ⟨gb485, _, none⟩) NB498_485.out _).trans (((cell_far (p := ⟨gb485, _, none⟩) NB498_485.out _).trans (((cell_far (p := ⟨gb485, _, none⟩) NB498_485.out _).trans (((cell_far (p := ⟨gb485, _, none⟩) NB498_485.out _).trans (hHeld.2.2.2.2.1)))))))))))))))))), ((cell_far (p := ⟨gb485, _, none⟩) NB498_485.out _).trans (((cell_far (p := ⟨gb485, _, none⟩) NB498_485.out _).trans (((cell_far (p := ⟨gb485, _, none⟩) NB498_485.out _).trans (((cell_far (p := ⟨gb485, _, none⟩) NB498_485.out _).trans (((cell_far (p := ⟨gb485, _, none⟩) NB498_485.out _).trans (((cell_far (p := ⟨gb485, _, none⟩) NB498_485.out _).trans (((cell_far (p := ⟨gb485, _, none⟩) NB498_485.out _).trans (((cell_far (p := ⟨gb485, _, none⟩) NB498_485.out _).trans (((cell_far (p := ⟨gb485, _, none⟩) NB498_485.out _).trans (hHeld.2.2.2.2.2.1)))))))))))))))))), ((cell_far (p := ⟨gb485, _, none⟩) NB498_485.out _).trans (((cell_far (p := ⟨gb485, _, none⟩) NB498_485.out _).trans (((cell_far (p := ⟨gb485, _, none⟩) NB498_485.out _).trans (((cell_far (p := ⟨gb485, _, none⟩) NB498_485.out _).trans (((cell_far (p := ⟨gb485, _, none⟩) NB498_485.out _).trans (((cell_far (p := ⟨gb485, _, none⟩) NB498_485.out _).trans (((cell_far (p := ⟨gb485, _, none⟩) NB498_485.out _).trans (((cell_far (p := ⟨gb485, _, none⟩) NB498_485.out _).trans (((cell_far (p := ⟨gb485, _, none⟩) NB498_485.out _).trans (hHeld.2.2.2.2.2.2.1)))))))))))))))))), ((cell_far (p := ⟨gb485, _, none⟩) NB498_485.out _).trans (((cell_far (p := ⟨gb485, _, none⟩) NB498_485.out _).trans (((cell_far (p := ⟨gb485, _, none⟩) NB498_485.out _).trans (((cell_far (p := ⟨gb485, _, none⟩) NB498_485.out _).trans (((cell_far (p := ⟨gb485, _, none⟩) NB498_485.out _).trans (((cell_far (p := ⟨gb485, _, none⟩) NB498_485.out _).trans (((cell_far (p := ⟨gb485, _, none⟩) NB498_485.out _).trans (((cell_far (p := ⟨gb485, _, none⟩) NB498_485.out _).trans (((cell_far (p := ⟨gb485, _, none⟩) NB498_485.out _).trans (hHeld.2.2.2.2.2.2.2.1)))))))))))))))))), ((cell_far (p := ⟨gb485, _, none⟩) NB498_485.out _).trans (((cell_far (p := ⟨gb485, _, none⟩) NB498_485.out _).trans (((cell_far (p := ⟨gb485, _, none⟩) NB498_485.out _).trans (((cell_far (p := ⟨gb485, _, none⟩) NB498_485.out _).trans (((cell_far (p := ⟨gb485, _, none⟩) NB498_485.out _).trans (((cell_far (p := ⟨gb485, _, none⟩) NB498_485.out _).trans (((cell_far (p := ⟨gb485, _, none⟩) NB498_485.out _).trans (((cell_far (p := ⟨gb485, _, none⟩) NB498_485.out _).trans (((cell_far (p := ⟨gb485, _, none⟩) NB498_485.out _).trans (hHeld.2.2.2.2.2.2.2.2))))))))))))))))))⟩ (fun hHeld => ?_)
                  clear hK K
                  refine pure_ (i := 6) (N := some 3) (v := ?_) (a' := ?_) #[true, true, true, true, true, true, true, false] rfl rfl (any_of HT_.out (by kernel_rfl)) (fun _ _ _ h => h) (Or.inl ⟨by rfl, ?_⟩) ?_ ?_
                  rotate_left
                  · intro w'
                    go_simp
                    with_reducible rfl
                  rotate_left
                  · simp only [Act.put, List.setIfInBounds_toArray, List.set_cons_zero, List.set_cons_succ, i64_w, i32_w]
                    rfl
                  refine pure_ (i := 7) (N := some 4) (v := ?_) (a' := ?_) #[true, true, true, true, true, true, true, true] rfl rfl (any_of HT_.out (by kernel_rfl)) (fun _ _ _ h => h) (Or.inl ⟨by rfl, ?_⟩) ?_ ?_
                  rotate_left
                  · intro w'
                    go_simp
                    with_reducible rfl
                  rotate_left
                  · simp only [Act.put, List.setIfInBounds_toArray, List.set_cons_zero, List.set_cons_succ, i64_w, i32_w]
                    rfl
                  refine done_ (done_of HT_.out (by kernel_rfl)) ?_
                  try go_wp2
                  refine bodyPost_ret (results_ctt rfl _ _ gb485 31 #[.int .i64 t492, .int .i64 t493, .int .i64 (wrap64 (Int.tdiv t491 8192)), .int .i64 (Int.tmod t491 8192), .int .i64 t494, .int .i64 t495, .int .u32 ((t496) % 4294967296), .int .u32 ((t497) % 4294967296), .string (a0.extract 20 (t486 : Int).toNat)] (0, 0) _ rfl (by (with_reducible repeat (first | refine blk_drewN ?_ _ | refine blk_drew ?_ | refine blk_alloc ?_ _)); refine blk_put (cs := #[.int .i64 t492, .int .i64 t493, .int .i64 (wrap64 (Int.tdiv t491 8192)), .int .i64 (Int.tmod t491 8192), .int .i64 t494, .int .i64 t495, .int .u32 ((t496) % 4294967296), .int .u32 ((t497) % 4294967296), .string (⟨#[]⟩ : ByteArray)]) ?_ 8 _ rfl; (with_reducible repeat (first | refine blk_drewN ?_ _ | refine blk_drew ?_ | refine blk_alloc ?_ _)); refine blk_put (cs := #[.int .i64 t492, .int .i64 t493, .int .i64 (wrap64 (Int.tdiv t491 8192)), .int .i64 (Int.tmod t491 8192), .int .i64 t494, .int .i64 t495, .int .u32 ((t496) % 4294967296), .int .u32 0, .string (⟨#[]⟩ : ByteArray)]) ?_ 7 _ rfl; (with_reducible repeat (first | refine blk_drewN ?_ _ | refine blk_drew ?_ | refine blk_alloc ?_ _)); refine blk_put (cs := #[.int .i64 t492, .int .i64 t493, .int .i64 (wrap64 (Int.tdiv t491 8192)), .int .i64 (Int.tmod t491 8192), .int .i64 t494, .int .i64 t495, .int .u32 0, .int .u32 0, .string (⟨#[]⟩ : ByteArray)]) ?_ 6 _ rfl; (with_reducible repeat (first | refine blk_drewN ?_ _ | refine blk_drew ?_ | refine blk_alloc ?_ _)); refine blk_put (cs := #[.int .i64 t492, .int .i64 t493, .int .i64 (wrap64 (Int.tdiv t491 8192)), .int .i64 (Int.tmod t491 8192), .int .i64 t494, .int .i64 0, .int .u32 0, .int .u32 0, .string (⟨#[]⟩ : ByteArray)]) ?_ 5 _ rfl; (with_reducible repeat (first | refine blk_drewN ?_ _ | refine blk_drew ?_ | refine blk_alloc ?_ _)); refine blk_put (cs := #[.int .i64 t492, .int .i64 t493, .int .i64 (wrap64 (Int.tdiv t491 8192)), .int .i64 (Int.tmod t491 8192), .int .i64 0, .int .i64 0, .int .u32 0, .int .u32 0, .string (⟨#[]⟩ : ByteArray)]) ?_ 4 _ rfl; (with_reducible repeat (first | refine blk_drewN ?_ _ | refine blk_drew ?_ | refine blk_alloc ?_ _)); refine blk_put (cs := #[.int .i64 t492, .int .i64 t493, .int .i64 (wrap64 (Int.tdiv t491 8192)), .int .i64 0, .int .i64 0, .int .i64 0, .int .u32 0, .int .u32 0, .string (⟨#[]⟩ : ByteArray)]) ?_ 3 _ rfl; (with_reducible repeat (first | refine blk_drewN ?_ _ | refine blk_drew ?_ | refine blk_alloc ?_ _)); refine blk_put (cs := #[.int .i64 t492, .int .i64 t493, .int .i64 0, .int .i64 0, .int .i64 0, .int .i64 0, .int .u32 0, .int .u32 0, .string (⟨#[]⟩ : ByteArray)]) ?_ 2 _ rfl; (with_reducible repeat (first | refine blk_drewN ?_ _ | refine blk_drew ?_ | refine blk_alloc ?_ _)); refine blk_put (cs := #[.int .i64 t492, .int .i64 0, .int .i64 0, .int .i64 0, .int .i64 0, .int .i64 0, .int .u32 0, .int .u32 0, .string (⟨#[]⟩ : ByteArray)]) ?_ 1 _ rfl; (with_reducible repeat (first | refine blk_drewN ?_ _ | refine blk_drew ?_ | refine blk_alloc ?_ _)); refine blk_put (cs := #[.int .i64 0, .int .i64 0, .int .i64 0, .int .i64 0, .int .i64 0, .int .i64 0, .int .u32 0, .int .u32 0, .string (⟨#[]⟩ : ByteArray)]) ?_ 0 _ rfl; (with_reducible repeat (first | refine blk_drewN ?_ _ | refine blk_drew ?_ | refine blk_alloc ?_ _)); exact BK485.out) Try.underlying31 rfl (by kernel_rfl)) rfl ?_
                  exact ⟨by first | rfl | (simp [errW_none, errW_some] <;> rfl) | (simp [*, errW_none, errW_some] <;> rfl), by repeat (first | (with_reducible first | exact HB.out | apply below_alloc | apply pw_below_drewN | apply below_drew1 | refine below_set ?_ GE485.out | refine below_set ?_ GE498.out) | exact HB.out)⟩
                · rw [if_neg c23] at H
                  exact absurd H (by simp)
              · rw [if_neg c22] at H
                exact absurd H (by simp)
            · replace c11 := Bool.eq_false_iff.mpr c11
              subst c11
              have H1 : (some (0, 0, 0, 0, 0, 0, 0, 0, (⟨#[]⟩ : ByteArray), (⟨#[]⟩ : ByteArray), 6)) = some (r1, r2, r3, r4, r5, r6, r7, r8, r9, r10, r11) := by rw [if_neg (show ¬ (false = true) by decide)] at H; exact H
              clear H
              have H := H1
              clear H1
              simp only [Option.some.injEq, Prod.mk.injEq] at H
              obtain ⟨rfl, rfl, rfl, rfl, rfl, rfl, rfl, rfl, rfl, rfl, rfl⟩ := H
              go_enter Try.func20, Try.ntmps20
              go_wp2_with (first | ((with_reducible refine gate_dst (N := 2) rfl ?_); refine box_event ?hg (N := 2) ?hd (cs := #[.int .i64 0, .int .i64 0, .int .i64 0, .int .i64 0, .int .i64 0, .int .i64 0, .int .u32 0, .int .u32 0, .string (⟨#[]⟩ : ByteArray)]) (t := 31) ?hr ?_; (case hd => rfl); (case hg => rfl); (case hr => first | (go_simp; done) | (go_simp; rfl)); intro gb485 hg w49 hbox hb; have n0_ := Aside0.mk (below_step (by repeat (first | (with_reducible first | exact HB.out | apply below_alloc | apply pw_below_drewN | apply below_drew1) | exact HB.out)) hb); have n1_ := Aside0.mk (hbox); have n2_ := Aside0.mk ((by rw [hg]; exact (below_size (by repeat (first | (with_reducible first | exact HB.out | apply below_alloc | apply pw_below_drewN | apply below_drew1) | exact HB.out))) : w.heap.size ≤ gb485)); have n3_ := Aside0.mk ((by rw [hg]; exact (below_size (by repeat (first | (with_reducible first | exact HB.out | apply below_alloc | apply pw_below_drewN | apply below_drew1) | exact HB.out))) : w.heap.size ≤ gb485)); clear HB; have HB := n0_; have BK485 := n1_; have GW485 := n2_; have GE485 := n3_; clear n0_ n1_ n2_ n3_; clear hb hbox hg) | ((with_reducible refine gate_callee (f := 22) rfl ?_); refine goesL_ (some 13) rfl rfl Try.func22 (by kernel_rfl) rfl #[.string a0] rfl (by (try simp only [List.map_toArray, List.map_cons, List.map_nil]); first | done | rfl | (simp only [List.length_drop, List.length_take]; rfl)) ?_; (with_reducible refine (weighbridgeref04_Sizes.calls a0 t486 t487 t488 _ A2.out).mono ?_); rintro e w' ⟨rfl, ⟨nd, rfl⟩⟩; refine ⟨_, rfl, ?_⟩; (try (rw [drewN_self w49]; generalize hq_ : World.drewN w49 _ = w49; have n0_ : Aside0 (w49.heap[gb485]? = some (.cells #[.int .i64 0, .int .i64 0, .int .i64 0, .int .i64 0, .int .i64 0, .int .i64 0, .int .u32 0, .int .u32 0, .string (⟨#[]⟩ : ByteArray)] 31 (0, 0))) := ⟨by rw [← hq_]; exact (by (with_reducible repeat (first | refine blk_drewN ?_ _ | refine blk_drew ?_ | refine blk_alloc ?_ _)); exact BK485.out)⟩; have n1_ : Aside0 (Below w.heap.size w w49) := ⟨by rw [← hq_]; exact (by repeat (first | (with_reducible first | exact HB.out | apply below_alloc | apply pw_below_drewN | apply below_drew1 | refine below_set ?_ GE485.out) | exact HB.out))⟩; clear BK485 HB hq_; have BK485 := n0_; have HB := n1_; clear n0_ n1_))) | ((with_reducible refine gate_callee (f := 34) rfl ?_); refine goesL_ (some 24) rfl rfl Try.func34 (by kernel_rfl) rfl #[.string (a0.extract 0 (t486 : Int).toNat)] rfl (by (try simp only [List.map_toArray, List.map_cons, List.map_nil]); first | done | rfl | (simp only [List.length_drop, List.length_take]; rfl)) ?_; (with_reducible refine (weighbridgeref03_Sum.calls (a0.extract 0 (t486 : Int).toNat) t489 _ A6.out).mono ?_); rintro e w50 ⟨rfl, hb⟩; (try clear A6); refine ⟨_, rfl, ?_⟩; have n0_ := Aside0.mk (blk_below (g := gb485) (o := .cells #[.int .i64 0, .int .i64 0, .int .i64 0, .int .i64 0, .int .i64 0, .int .i64 0, .int .u32 0, .int .u32 0, .string (⟨#[]⟩ : ByteArray)] 31 (0, 0)) (by (with_reducible repeat (first | refine blk_drewN ?_ _ | refine blk_drew ?_ | refine blk_alloc ?_ _)); exact BK485.out) hb); have n1_ := Aside0.mk (below_step (by repeat (first | (with_reducible first | exact HB.out | apply below_alloc | apply pw_below_drewN | apply below_drew1 | refine below_set ?_ GE485.out) | exact HB.out)) hb); clear BK485; clear HB; have BK485 := n0_; have HB := n1_; clear n0_ n1_; (try clear hb); (try clear hb2); (try clear hk); (try clear hi)) | ((with_reducible refine gate_callee (f := 17) rfl ?_); refine goesL_ (some 30) rfl rfl Try.func17 (by kernel_rfl) rfl #[.string (a0.extract 20 (t486 : Int).toNat)] rfl (by (try simp only [List.map_toArray, List.map_cons, List.map_nil]); first | done | rfl | (simp only [List.length_drop, List.length_take]; rfl)) ?_; (with_reducible refine (weighbridgeref04_OptsRight.calls (a0.extract 20 (t486 : Int).toNat) false _ A10.out).mono ?_); rintro e w' ⟨rfl, ⟨nd, rfl⟩⟩; refine ⟨_, rfl, ?_⟩; (try (rw [drewN_self w50]; generalize hq_ : World.drewN w50 _ = w50; have n0_ : Aside0 (w50.heap[gb485]? = some (.cells #[.int .i64 0, .int .i64 0, .int .i64 0, .int .i64 0, .int .i64 0, .int .i64 0, .int .u32 0, .int .u32 0, .string (⟨#[]⟩ : ByteArray)] 31 (0, 0))) := ⟨by rw [← hq_]; exact (by (with_reducible repeat (first | refine blk_drewN ?_ _ | refine blk_drew ?_ | refine blk_alloc ?_ _)); exact BK485.out)⟩; have n1_ : Aside0 (Below w.heap.size w w50) := ⟨by rw [← hq_]; exact (by repeat (first | (with_reducible first | exact HB.out | apply below_alloc | apply pw_below_drewN | apply below_drew1 | refine below_set ?_ GE485.out) | exact HB.out))⟩; clear BK485 HB hq_; have BK485 := n0_; have HB := n1_; clear n0_ n1_)); have hcz51_0 : w50.cell? ⟨gb485, 0, none⟩ = some (.int .i64 0) := (blk_cell BK485.out 0).trans rfl; have hcz51_1 : w50.cell? ⟨gb485, 1, none⟩ = some (.int .i64 0) := (blk_cell BK485.out 1).trans rfl; have hcz51_2 : w50.cell? ⟨gb485, 2, none⟩ = some (.int .i64 0) := (blk_cell BK485.out 2).trans rfl; have hcz51_3 : w50.cell? ⟨gb485, 3, none⟩ = some (.int .i64 0) := (blk_cell BK485.out 3).trans rfl; have hcz51_4 : w50.cell? ⟨gb485, 4, none⟩ = some (.int .i64 0) := (blk_cell BK485.out 4).trans rfl; have hcz51_5 : w50.cell? ⟨gb485, 5, none⟩ = some (.int .i64 0) := (blk_cell BK485.out 5).trans rfl; have hcz51_6 : w50.cell? ⟨gb485, 6, none⟩ = some (.int .u32 0) := (blk_cell BK485.out 6).trans rfl; have hcz51_7 : w50.cell? ⟨gb485, 7, none⟩ = some (.int .u32 0) := (blk_cell BK485.out 7).trans rfl; have hcz51_8 : w50.cell? ⟨gb485, 8, none⟩ = some (.string (⟨#[]⟩ : ByteArray)) := (blk_cell BK485.out 8).trans rfl; have hfz51_0 := blk_frozen BK485.out 0; have hfz51_1 := blk_frozen BK485.out 1; have hfz51_2 := blk_frozen BK485.out 2; have hfz51_3 := blk_frozen BK485.out 3; have hfz51_4 := blk_frozen BK485.out 4; have hfz51_5 := blk_frozen BK485.out 5; have hfz51_6 := blk_frozen BK485.out 6; have hfz51_7 := blk_frozen BK485.out 7; have hfz51_8 := blk_frozen BK485.out 8))
              refine bodyPost_ret (results_ctt rfl _ _ gb485 31 #[.int .i64 0, .int .i64 0, .int .i64 0, .int .i64 0, .int .i64 0, .int .i64 0, .int .u32 0, .int .u32 0, .string (⟨#[]⟩ : ByteArray)] (0, 0) _ rfl (by (with_reducible repeat (first | refine blk_drewN ?_ _ | refine blk_drew ?_ | refine blk_alloc ?_ _)); refine blk_put (cs := #[.int .i64 0, .int .i64 0, .int .i64 0, .int .i64 0, .int .i64 0, .int .i64 0, .int .u32 0, .int .u32 0, .string (⟨#[]⟩ : ByteArray)]) ?_ 8 _ rfl; (with_reducible repeat (first | refine blk_drewN ?_ _ | refine blk_drew ?_ | refine blk_alloc ?_ _)); refine blk_put (cs := #[.int .i64 0, .int .i64 0, .int .i64 0, .int .i64 0, .int .i64 0, .int .i64 0, .int .u32 0, .int .u32 0, .string (⟨#[]⟩ : ByteArray)]) ?_ 7 _ rfl; (with_reducible repeat (first | refine blk_drewN ?_ _ | refine blk_drew ?_ | refine blk_alloc ?_ _)); refine blk_put (cs := #[.int .i64 0, .int .i64 0, .int .i64 0, .int .i64 0, .int .i64 0, .int .i64 0, .int .u32 0, .int .u32 0, .string (⟨#[]⟩ : ByteArray)]) ?_ 6 _ rfl; (with_reducible repeat (first | refine blk_drewN ?_ _ | refine blk_drew ?_ | refine blk_alloc ?_ _)); refine blk_put (cs := #[.int .i64 0, .int .i64 0, .int .i64 0, .int .i64 0, .int .i64 0, .int .i64 0, .int .u32 0, .int .u32 0, .string (⟨#[]⟩ : ByteArray)]) ?_ 5 _ rfl; (with_reducible repeat (first | refine blk_drewN ?_ _ | refine blk_drew ?_ | refine blk_alloc ?_ _)); refine blk_put (cs := #[.int .i64 0, .int .i64 0, .int .i64 0, .int .i64 0, .int .i64 0, .int .i64 0, .int .u32 0, .int .u32 0, .string (⟨#[]⟩ : ByteArray)]) ?_ 4 _ rfl; (with_reducible repeat (first | refine blk_drewN ?_ _ | refine blk_drew ?_ | refine blk_alloc ?_ _)); refine blk_put (cs := #[.int .i64 0, .int .i64 0, .int .i64 0, .int .i64 0, .int .i64 0, .int .i64 0, .int .u32 0, .int .u32 0, .string (⟨#[]⟩ : ByteArray)]) ?_ 3 _ rfl; (with_reducible repeat (first | refine blk_drewN ?_ _ | refine blk_drew ?_ | refine blk_alloc ?_ _)); refine blk_put (cs := #[.int .i64 0, .int .i64 0, .int .i64 0, .int .i64 0, .int .i64 0, .int .i64 0, .int .u32 0, .int .u32 0, .string (⟨#[]⟩ : ByteArray)]) ?_ 2 _ rfl; (with_reducible repeat (first | refine blk_drewN ?_ _ | refine blk_drew ?_ | refine blk_alloc ?_ _)); refine blk_put (cs := #[.int .i64 0, .int .i64 0, .int .i64 0, .int .i64 0, .int .i64 0, .int .i64 0, .int .u32 0, .int .u32 0, .string (⟨#[]⟩ : ByteArray)]) ?_ 1 _ rfl; (with_reducible repeat (first | refine blk_drewN ?_ _ | refine blk_drew ?_ | refine blk_alloc ?_ _)); refine blk_put (cs := #[.int .i64 0, .int .i64 0, .int .i64 0, .int .i64 0, .int .i64 0, .int .i64 0, .int .u32 0, .int .u32 0, .string (⟨#[]⟩ : ByteArray)]) ?_ 0 _ rfl; (with_reducible repeat (first | refine blk_drewN ?_ _ | refine blk_drew ?_ | refine blk_alloc ?_ _)); exact BK485.out) Try.underlying31 rfl (by kernel_rfl)) rfl ?_
              exact ⟨by first | rfl | (simp [errW_none, errW_some] <;> rfl) | (simp [*, errW_none, errW_some] <;> rfl), by repeat (first | (with_reducible first | exact HB.out | apply below_alloc | apply pw_below_drewN | apply below_drew1 | refine below_set ?_ GE485.out) | exact HB.out)⟩
          · rw [if_neg c8] at H
            exact absurd H (by simp)
        · rw [if_neg c7] at H
          have c7b0 : (t489 == 65535) = false := beq_eq_false_iff_ne.mpr c7
          have c7b1 : (t489 != 65535) = true := bne_iff_ne.mpr c7
          simp only [Option.some.injEq, Prod.mk.injEq] at H
          obtain ⟨rfl, rfl, rfl, rfl, rfl, rfl, rfl, rfl, rfl, rfl, rfl⟩ := H
          go_enter Try.func20, Try.ntmps20
          go_wp2_with (first | ((with_reducible refine gate_dst (N := 2) rfl ?_); refine box_event ?hg (N := 2) ?hd (cs := #[.int .i64 0, .int .i64 0, .int .i64 0, .int .i64 0, .int .i64 0, .int .i64 0, .int .u32 0, .int .u32 0, .string (⟨#[]⟩ : ByteArray)]) (t := 31) ?hr ?_; (case hd => rfl); (case hg => rfl); (case hr => first | (go_simp; done) | (go_simp; rfl)); intro gb485 hg w52 hbox hb; have n0_ := Aside0.mk (below_step (by repeat (first | (with_reducible first | exact HB.out | apply below_alloc | apply pw_below_drewN | apply below_drew1) | exact HB.out)) hb); have n1_ := Aside0.mk (hbox); have n2_ := Aside0.mk ((by rw [hg]; exact (below_size (by repeat (first | (with_reducible first | exact HB.out | apply below_alloc | apply pw_below_drewN | apply below_drew1) | exact HB.out))) : w.heap.size ≤ gb485)); have n3_ := Aside0.mk ((by rw [hg]; exact (below_size (by repeat (first | (with_reducible first | exact HB.out | apply below_alloc | apply pw_below_drewN | apply below_drew1) | exact HB.out))) : w.heap.size ≤ gb485)); clear HB; have HB := n0_; have BK485 := n1_; have GW485 := n2_; have GE485 := n3_; clear n0_ n1_ n2_ n3_; clear hb hbox hg) | ((with_reducible refine gate_callee (f := 22) rfl ?_); refine goesL_ (some 13) rfl rfl Try.func22 (by kernel_rfl) rfl #[.string a0] rfl (by (try simp only [List.map_toArray, List.map_cons, List.map_nil]); first | done | rfl | (simp only [List.length_drop, List.length_take]; rfl)) ?_; (with_reducible refine (weighbridgeref04_Sizes.calls a0 t486 t487 t488 _ A2.out).mono ?_); rintro e w' ⟨rfl, ⟨nd, rfl⟩⟩; refine ⟨_, rfl, ?_⟩; (try (rw [drewN_self w52]; generalize hq_ : World.drewN w52 _ = w52; have n0_ : Aside0 (w52.heap[gb485]? = some (.cells #[.int .i64 0, .int .i64 0, .int .i64 0, .int .i64 0, .int .i64 0, .int .i64 0, .int .u32 0, .int .u32 0, .string (⟨#[]⟩ : ByteArray)] 31 (0, 0))) := ⟨by rw [← hq_]; exact (by (with_reducible repeat (first | refine blk_drewN ?_ _ | refine blk_drew ?_ | refine blk_alloc ?_ _)); exact BK485.out)⟩; have n1_ : Aside0 (Below w.heap.size w w52) := ⟨by rw [← hq_]; exact (by repeat (first | (with_reducible first | exact HB.out | apply below_alloc | apply pw_below_drewN | apply below_drew1 | refine below_set ?_ GE485.out) | exact HB.out))⟩; clear BK485 HB hq_; have BK485 := n0_; have HB := n1_; clear n0_ n1_))) | ((with_reducible refine gate_callee (f := 34) rfl ?_); refine goesL_ (some 24) rfl rfl Try.func34 (by kernel_rfl) rfl #[.string (a0.extract 0 (t486 : Int).toNat)] rfl (by (try simp only [List.map_toArray, List.map_cons, List.map_nil]); first | done | rfl | (simp only [List.length_drop, List.length_take]; rfl)) ?_; (with_reducible refine (weighbridgeref03_Sum.calls (a0.extract 0 (t486 : Int).toNat) t489 _ A6.out).mono ?_); rintro e w53 ⟨rfl, hb⟩; (try clear A6); refine ⟨_, rfl, ?_⟩; have n0_ := Aside0.mk (blk_below (g := gb485) (o := .cells #[.int .i64 0, .int .i64 0, .int .i64 0, .int .i64 0, .int .i64 0, .int .i64 0, .int .u32 0, .int .u32 0, .string (⟨#[]⟩ : ByteArray)] 31 (0, 0)) (by (with_reducible repeat (first | refine blk_drewN ?_ _ | refine blk_drew ?_ | refine blk_alloc ?_ _)); exact BK485.out) hb); have n1_ := Aside0.mk (below_step (by repeat (first | (with_reducible first | exact HB.out | apply below_alloc | apply pw_below_drewN | apply below_drew1 | refine below_set ?_ GE485.out) | exact HB.out)) hb); clear BK485; clear HB; have BK485 := n0_; have HB := n1_; clear n0_ n1_; (try clear hb); (try clear hb2); (try clear hk); (try clear hi); have hcz54_0 : w53.cell? ⟨gb485, 0, none⟩ = some (.int .i64 0) := (blk_cell BK485.out 0).trans rfl; have hcz54_1 : w53.cell? ⟨gb485, 1, none⟩ = some (.int .i64 0) := (blk_cell BK485.out 1).trans rfl; have hcz54_2 : w53.cell? ⟨gb485, 2, none⟩ = some (.int .i64 0) := (blk_cell BK485.out 2).trans rfl; have hcz54_3 : w53.cell? ⟨gb485, 3, none⟩ = some (.int .i64 0) := (blk_cell BK485.out 3).trans rfl; have hcz54_4 : w53.cell? ⟨gb485, 4, none⟩ = some (.int .i64 0) := (blk_cell BK485.out 4).trans rfl; have hcz54_5 : w53.cell? ⟨gb485, 5, none⟩ = some (.int .i64 0) := (blk_cell BK485.out 5).trans rfl; have hcz54_6 : w53.cell? ⟨gb485, 6, none⟩ = some (.int .u32 0) := (blk_cell BK485.out 6).trans rfl; have hcz54_7 : w53.cell? ⟨gb485, 7, none⟩ = some (.int .u32 0) := (blk_cell BK485.out 7).trans rfl; have hcz54_8 : w53.cell? ⟨gb485, 8, none⟩ = some (.string (⟨#[]⟩ : ByteArray)) := (blk_cell BK485.out 8).trans rfl; have hfz54_0 := blk_frozen BK485.out 0; have hfz54_1 := blk_frozen BK485.out 1; have hfz54_2 := blk_frozen BK485.out 2; have hfz54_3 := blk_frozen BK485.out 3; have hfz54_4 := blk_frozen BK485.out 4; have hfz54_5 := blk_frozen BK485.out 5; have hfz54_6 := blk_frozen BK485.out 6; have hfz54_7 := blk_frozen BK485.out 7; have hfz54_8 := blk_frozen BK485.out 8))
          refine bodyPost_ret (results_ctt rfl _ _ gb485 31 #[.int .i64 0, .int .i64 0, .int .i64 0, .int .i64 0, .int .i64 0, .int .i64 0, .int .u32 0, .int .u32 0, .string (⟨#[]⟩ : ByteArray)] (0, 0) _ rfl (by (with_reducible repeat (first | refine blk_drewN ?_ _ | refine blk_drew ?_ | refine blk_alloc ?_ _)); refine blk_put (cs := #[.int .i64 0, .int .i64 0, .int .i64 0, .int .i64 0, .int .i64 0, .int .i64 0, .int .u32 0, .int .u32 0, .string (⟨#[]⟩ : ByteArray)]) ?_ 8 _ rfl; (with_reducible repeat (first | refine blk_drewN ?_ _ | refine blk_drew ?_ | refine blk_alloc ?_ _)); refine blk_put (cs := #[.int .i64 0, .int .i64 0, .int .i64 0, .int .i64 0, .int .i64 0, .int .i64 0, .int .u32 0, .int .u32 0, .string (⟨#[]⟩ : ByteArray)]) ?_ 7 _ rfl; (with_reducible repeat (first | refine blk_drewN ?_ _ | refine blk_drew ?_ | refine blk_alloc ?_ _)); refine blk_put (cs := #[.int .i64 0, .int .i64 0, .int .i64 0, .int .i64 0, .int .i64 0, .int .i64 0, .int .u32 0, .int .u32 0, .string (⟨#[]⟩ : ByteArray)]) ?_ 6 _ rfl; (with_reducible repeat (first | refine blk_drewN ?_ _ | refine blk_drew ?_ | refine blk_alloc ?_ _)); refine blk_put (cs := #[.int .i64 0, .int .i64 0, .int .i64 0, .int .i64 0, .int .i64 0, .int .i64 0, .int .u32 0, .int .u32 0, .string (⟨#[]⟩ : ByteArray)]) ?_ 5 _ rfl; (with_reducible repeat (first | refine blk_drewN ?_ _ | refine blk_drew ?_ | refine blk_alloc ?_ _)); refine blk_put (cs := #[.int .i64 0, .int .i64 0, .int .i64 0, .int .i64 0, .int .i64 0, .int .i64 0, .int .u32 0, .int .u32 0, .string (⟨#[]⟩ : ByteArray)]) ?_ 4 _ rfl; (with_reducible repeat (first | refine blk_drewN ?_ _ | refine blk_drew ?_ | refine blk_alloc ?_ _)); refine blk_put (cs := #[.int .i64 0, .int .i64 0, .int .i64 0, .int .i64 0, .int .i64 0, .int .i64 0, .int .u32 0, .int .u32 0, .string (⟨#[]⟩ : ByteArray)]) ?_ 3 _ rfl; (with_reducible repeat (first | refine blk_drewN ?_ _ | refine blk_drew ?_ | refine blk_alloc ?_ _)); refine blk_put (cs := #[.int .i64 0, .int .i64 0, .int .i64 0, .int .i64 0, .int .i64 0, .int .i64 0, .int .u32 0, .int .u32 0, .string (⟨#[]⟩ : ByteArray)]) ?_ 2 _ rfl; (with_reducible repeat (first | refine blk_drewN ?_ _ | refine blk_drew ?_ | refine blk_alloc ?_ _)); refine blk_put (cs := #[.int .i64 0, .int .i64 0, .int .i64 0, .int .i64 0, .int .i64 0, .int .i64 0, .int .u32 0, .int .u32 0, .string (⟨#[]⟩ : ByteArray)]) ?_ 1 _ rfl; (with_reducible repeat (first | refine blk_drewN ?_ _ | refine blk_drew ?_ | refine blk_alloc ?_ _)); refine blk_put (cs := #[.int .i64 0, .int .i64 0, .int .i64 0, .int .i64 0, .int .i64 0, .int .i64 0, .int .u32 0, .int .u32 0, .string (⟨#[]⟩ : ByteArray)]) ?_ 0 _ rfl; (with_reducible repeat (first | refine blk_drewN ?_ _ | refine blk_drew ?_ | refine blk_alloc ?_ _)); exact BK485.out) Try.underlying31 rfl (by kernel_rfl)) rfl ?_
          exact ⟨by first | rfl | (simp [errW_none, errW_some] <;> rfl) | (simp [*, errW_none, errW_some] <;> rfl), by repeat (first | (with_reducible first | exact HB.out | apply below_alloc | apply pw_below_drewN | apply below_drew1 | refine below_set ?_ GE485.out) | exact HB.out)⟩
      · rw [if_neg c5] at H
        exact absurd H (by simp)
    · rw [if_neg c4] at H
      exact absurd H (by simp)
  · rw [if_neg c3] at H
    have c3b0 : (t488 == 0) = false := beq_eq_false_iff_ne.mpr c3
    have c3b1 : (t488 != 0) = true := bne_iff_ne.mpr c3
    simp only [Option.some.injEq, Prod.mk.injEq] at H
    obtain ⟨rfl, rfl, rfl, rfl, rfl, rfl, rfl, rfl, rfl, rfl, rfl⟩ := H
    go_enter Try.func20, Try.ntmps20
    go_wp2_with (first | ((with_reducible refine gate_dst (N := 2) rfl ?_); refine box_event ?hg (N := 2) ?hd (cs := #[.int .i64 0, .int .i64 0, .int .i64 0, .int .i64 0, .int .i64 0, .int .i64 0, .int .u32 0, .int .u32 0, .string (⟨#[]⟩ : ByteArray)]) (t := 31) ?hr ?_; (case hd => rfl); (case hg => rfl); (case hr => first | (go_simp; done) | (go_simp; rfl)); intro gb485 hg w55 hbox hb; have n0_ := Aside0.mk (below_step (by repeat (first | (with_reducible first | exact HB.out | apply below_alloc | apply pw_below_drewN | apply below_drew1) | exact HB.out)) hb); have n1_ := Aside0.mk (hbox); have n2_ := Aside0.mk ((by rw [hg]; exact (below_size (by repeat (first | (with_reducible first | exact HB.out | apply below_alloc | apply pw_below_drewN | apply below_drew1) | exact HB.out))) : w.heap.size ≤ gb485)); have n3_ := Aside0.mk ((by rw [hg]; exact (below_size (by repeat (first | (with_reducible first | exact HB.out | apply below_alloc | apply pw_below_drewN | apply below_drew1) | exact HB.out))) : w.heap.size ≤ gb485)); clear HB; have HB := n0_; have BK485 := n1_; have GW485 := n2_; have GE485 := n3_; clear n0_ n1_ n2_ n3_; clear hb hbox hg) | ((with_reducible refine gate_callee (f := 22) rfl ?_); refine goesL_ (some 13) rfl rfl Try.func22 (by kernel_rfl) rfl #[.string a0] rfl (by (try simp only [List.map_toArray, List.map_cons, List.map_nil]); first | done | rfl | (simp only [List.length_drop, List.length_take]; rfl)) ?_; (with_reducible refine (weighbridgeref04_Sizes.calls a0 t486 t487 t488 _ A2.out).mono ?_); rintro e w' ⟨rfl, ⟨nd, rfl⟩⟩; refine ⟨_, rfl, ?_⟩; (try (rw [drewN_self w55]; generalize hq_ : World.drewN w55 _ = w55; have n0_ : Aside0 (w55.heap[gb485]? = some (.cells #[.int .i64 0, .int .i64 0, .int .i64 0, .int .i64 0, .int .i64 0, .int .i64 0, .int .u32 0, .int .u32 0, .string (⟨#[]⟩ : ByteArray)] 31 (0, 0))) := ⟨by rw [← hq_]; exact (by (with_reducible repeat (first | refine blk_drewN ?_ _ | refine blk_drew ?_ | refine blk_alloc ?_ _)); exact BK485.out)⟩; have n1_ : Aside0 (Below w.heap.size w w55) := ⟨by rw [← hq_]; exact (by repeat (first | (with_reducible first | exact HB.out | apply below_alloc | apply pw_below_drewN | apply below_drew1 | refine below_set ?_ GE485.out) | exact HB.out))⟩; clear BK485 HB hq_; have BK485 := n0_; have HB := n1_; clear n0_ n1_)); have hcz56_0 : w55.cell? ⟨gb485, 0, none⟩ = some (.int .i64 0) := (blk_cell BK485.out 0).trans rfl; have hcz56_1 : w55.cell? ⟨gb485, 1, none⟩ = some (.int .i64 0) := (blk_cell BK485.out 1).trans rfl; have hcz56_2 : w55.cell? ⟨gb485, 2, none⟩ = some (.int .i64 0) := (blk_cell BK485.out 2).trans rfl; have hcz56_3 : w55.cell? ⟨gb485, 3, none⟩ = some (.int .i64 0) := (blk_cell BK485.out 3).trans rfl; have hcz56_4 : w55.cell? ⟨gb485, 4, none⟩ = some (.int .i64 0) := (blk_cell BK485.out 4).trans rfl; have hcz56_5 : w55.cell? ⟨gb485, 5, none⟩ = some (.int .i64 0) := (blk_cell BK485.out 5).trans rfl; have hcz56_6 : w55.cell? ⟨gb485, 6, none⟩ = some (.int .u32 0) := (blk_cell BK485.out 6).trans rfl; have hcz56_7 : w55.cell? ⟨gb485, 7, none⟩ = some (.int .u32 0) := (blk_cell BK485.out 7).trans rfl; have hcz56_8 : w55.cell? ⟨gb485, 8, none⟩ = some (.string (⟨#[]⟩ : ByteArray)) := (blk_cell BK485.out 8).trans rfl; have hfz56_0 := blk_frozen BK485.out 0; have hfz56_1 := blk_frozen BK485.out 1; have hfz56_2 := blk_frozen BK485.out 2; have hfz56_3 := blk_frozen BK485.out 3; have hfz56_4 := blk_frozen BK485.out 4; have hfz56_5 := blk_frozen BK485.out 5; have hfz56_6 := blk_frozen BK485.out 6; have hfz56_7 := blk_frozen BK485.out 7; have hfz56_8 := blk_frozen BK485.out 8))
    refine bodyPost_ret (results_ctt rfl _ _ gb485 31 #[.int .i64 0, .int .i64 0, .int .i64 0, .int .i64 0, .int .i64 0, .int .i64 0, .int .u32 0, .int .u32 0, .string (⟨#[]⟩ : ByteArray)] (0, 0) _ rfl (by (with_reducible repeat (first | refine blk_drewN ?_ _ | refine blk_drew ?_ | refine blk_alloc ?_ _)); refine blk_put (cs := #[.int .i64 0, .int .i64 0, .int .i64 0, .int .i64 0, .int .i64 0, .int .i64 0, .int .u32 0, .int .u32 0, .string (⟨#[]⟩ : ByteArray)]) ?_ 8 _ rfl; (with_reducible repeat (first | refine blk_drewN ?_ _ | refine blk_drew ?_ | refine blk_alloc ?_ _)); refine blk_put (cs := #[.int .i64 0, .int .i64 0, .int .i64 0, .int .i64 0, .int .i64 0, .int .i64 0, .int .u32 0, .int .u32 0, .string (⟨#[]⟩ : ByteArray)]) ?_ 7 _ rfl; (with_reducible repeat (first | refine blk_drewN ?_ _ | refine blk_drew ?_ | refine blk_alloc ?_ _)); refine blk_put (cs := #[.int .i64 0, .int .i64 0, .int .i64 0, .int .i64 0, .int .i64 0, .int .i64 0, .int .u32 0, .int .u32 0, .string (⟨#[]⟩ : ByteArray)]) ?_ 6 _ rfl; (with_reducible repeat (first | refine blk_drewN ?_ _ | refine blk_drew ?_ | refine blk_alloc ?_ _)); refine blk_put (cs := #[.int .i64 0, .int .i64 0, .int .i64 0, .int .i64 0, .int .i64 0, .int .i64 0, .int .u32 0, .int .u32 0, .string (⟨#[]⟩ : ByteArray)]) ?_ 5 _ rfl; (with_reducible repeat (first | refine blk_drewN ?_ _ | refine blk_drew ?_ | refine blk_alloc ?_ _)); refine blk_put (cs := #[.int .i64 0, .int .i64 0, .int .i64 0, .int .i64 0, .int .i64 0, .int .i64 0, .int .u32 0, .int .u32 0, .string (⟨#[]⟩ : ByteArray)]) ?_ 4 _ rfl; (with_reducible repeat (first | refine blk_drewN ?_ _ | refine blk_drew ?_ | refine blk_alloc ?_ _)); refine blk_put (cs := #[.int .i64 0, .int .i64 0, .int .i64 0, .int .i64 0, .int .i64 0, .int .i64 0, .int .u32 0, .int .u32 0, .string (⟨#[]⟩ : ByteArray)]) ?_ 3 _ rfl; (with_reducible repeat (first | refine blk_drewN ?_ _ | refine blk_drew ?_ | refine blk_alloc ?_ _)); refine blk_put (cs := #[.int .i64 0, .int .i64 0, .int .i64 0, .int .i64 0, .int .i64 0, .int .i64 0, .int .u32 0, .int .u32 0, .string (⟨#[]⟩ : ByteArray)]) ?_ 2 _ rfl; (with_reducible repeat (first | refine blk_drewN ?_ _ | refine blk_drew ?_ | refine blk_alloc ?_ _)); refine blk_put (cs := #[.int .i64 0, .int .i64 0, .int .i64 0, .int .i64 0, .int .i64 0, .int .i64 0, .int .u32 0, .int .u32 0, .string (⟨#[]⟩ : ByteArray)]) ?_ 1 _ rfl; (with_reducible repeat (first | refine blk_drewN ?_ _ | refine blk_drew ?_ | refine blk_alloc ?_ _)); refine blk_put (cs := #[.int .i64 0, .int .i64 0, .int .i64 0, .int .i64 0, .int .i64 0, .int .i64 0, .int .u32 0, .int .u32 0, .string (⟨#[]⟩ : ByteArray)]) ?_ 0 _ rfl; (with_reducible repeat (first | refine blk_drewN ?_ _ | refine blk_drew ?_ | refine blk_alloc ?_ _)); exact BK485.out) Try.underlying31 rfl (by kernel_rfl)) rfl ?_
    exact ⟨by first | rfl | (simp [errW_none, errW_some] <;> rfl) | (simp [*, errW_none, errW_some] <;> rfl), by repeat (first | (with_reducible first | exact HB.out | apply below_alloc | apply pw_below_drewN | apply below_drew1 | refine below_set ?_ GE485.out) | exact HB.out)⟩

theorem r4_get (s : ByteArray) (a b : Int) (hs : s.size ≤ 140737488355328) : weighbridgeref04_num.f s a b = some (Sp.get (bl s) a b).1 := by
  unfold weighbridgeref04_num.f; rw [weighbridgeref01_Get_eq _ _ _ (by omega)]; rfl
theorem r4_small (s : List UInt8) (a b : Int) : 0 ≤ (Sp.get s a b).1 ∧ (Sp.get s a b).1 < 4294967296 := by
  unfold Sp.get
  split
  case isFalse => exact ⟨by decide, by decide⟩
  case isTrue h =>
    have hf := Sp.has_iff.1 h
    exact Sp.beNum_small _ (by rw [List.length_take]; omega)
def weighbridgeref04_Parse.f (a0 : ByteArray) : Option (Int × Int × Int × Int × Int × Int × Int × Int × ByteArray × ByteArray × Int) := if a0.size ≤ 140737488355328 then some ((Sp.ip4Parse (bl a0)).tos, (Sp.ip4Parse (bl a0)).id, (Sp.ip4Parse (bl a0)).flags, (Sp.ip4Parse (bl a0)).frag, (Sp.ip4Parse (bl a0)).ttl, (Sp.ip4Parse (bl a0)).proto, (Sp.ip4Parse (bl a0)).src, (Sp.ip4Parse (bl a0)).dst, lb (Sp.ip4Parse (bl a0)).opts, lb (Sp.ip4Parse (bl a0)).body, (Sp.ip4Parse (bl a0)).e) else none
theorem weighbridgeref04_Parse_eq {a0 : ByteArray} (h : a0.size ≤ 140737488355328) : weighbridgeref04_Parse.f a0 = some ((Sp.ip4Parse (bl a0)).tos, (Sp.ip4Parse (bl a0)).id, (Sp.ip4Parse (bl a0)).flags, (Sp.ip4Parse (bl a0)).frag, (Sp.ip4Parse (bl a0)).ttl, (Sp.ip4Parse (bl a0)).proto, (Sp.ip4Parse (bl a0)).src, (Sp.ip4Parse (bl a0)).dst, lb (Sp.ip4Parse (bl a0)).opts, lb (Sp.ip4Parse (bl a0)).body, (Sp.ip4Parse (bl a0)).e) := by unfold weighbridgeref04_Parse.f; exact if_pos h
theorem weighbridgeref04_Parse_ev (a0 : ByteArray) (r : Int × Int × Int × Int × Int × Int × Int × Int × ByteArray × ByteArray × Int) (h : weighbridgeref04_Parse.f a0 = some r) : weighbridgeref04_Parse_p.f a0 = some r := by
  unfold weighbridgeref04_Parse.f at h
  split at h
  case isFalse => cases h
  case isTrue hs =>
    rw [← h]
    have hl := bl_length a0
    unfold weighbridgeref04_Parse_p.f
    rw [weighbridgeref04_Sizes_eq hs, Option.bind_some]
    by_cases h0 : (Sp.ip4Sizes (bl a0)).2.2 = 0
    · obtain ⟨z1, z2, z3, z4, z5, z6, z7, ez⟩ := Sp.ip4Sizes_ok h0
      have e1 : (Sp.ip4Sizes (bl a0)).1 = Sp.ip4Len (bl a0) := by rw [ez]
      have e2 : (Sp.ip4Sizes (bl a0)).2.1 = Sp.ip4Tot (bl a0) := by rw [ez]
      have hx : ∀ i j : Nat, a0.extract i j = lb (((bl a0).take j).drop i) := fun i j => Sp.bl_inj (by rw [bl_extract, bl_lb])
      have hlen : ∀ i j : Nat, (((bl a0).take j).drop i).length ≤ 140737488355328 := fun i j => by rw [List.length_drop, List.length_take]; omega
      rw [if_pos h0, e1, e2, if_pos (by omega), if_pos (by omega), hx 0, List.drop_zero, weighbridgeref03_Sum_eq (by rw [lb_size, List.length_take]; omega), Option.bind_some, bl_lb]
      by_cases hc : Sp.sum ((bl a0).take (Sp.ip4Len (bl a0)).toNat) = 65535
      · rw [if_pos hc, if_pos (by omega), hx 20, weighbridgeref04_OptsRight_eq (by rw [lb_size]; exact hlen _ _), Option.bind_some, bl_lb]
        by_cases ho : Sp.optsOk (((bl a0).take (Sp.ip4Len (bl a0)).toNat).drop 20) = true
        · have g6 := r4_small (bl a0) 6 2
          have g12 := r4_small (bl a0) 12 4
          have g16 := r4_small (bl a0) 16 4
          have e : Sp.ip4Parse (bl a0) = Sp.ip4Fields (bl a0) (Sp.ip4Len (bl a0)) (Sp.ip4Tot (bl a0)) := by unfold Sp.ip4Parse; rw [if_pos h0, if_pos hc, if_pos ho]
          rw [if_pos ho]
          simp only [r4_get _ _ _ hs, Option.bind_some]
          rw [if_pos (by omega), if_pos (by omega), hx, Int.tdiv_eq_ediv_of_nonneg g6.1, r4_wrap (by omega) (by omega), Int.tmod_eq_emod_of_nonneg g6.1, Int.emod_eq_of_lt g12.1 g12.2, Int.emod_eq_of_lt g16.1 g16.2, e]
          rfl
        · have e : Sp.ip4Parse (bl a0) = Sp.ip4None 6 := by unfold Sp.ip4Parse; rw [if_pos h0, if_pos hc, if_neg ho]
          rw [if_neg ho, e]; rfl
      · have e : Sp.ip4Parse (bl a0) = Sp.ip4None 7 := by unfold Sp.ip4Parse; rw [if_pos h0, if_neg hc]
        rw [if_neg hc, e]; rfl
    · have e : Sp.ip4Parse (bl a0) = Sp.ip4None (Sp.ip4Sizes (bl a0)).2.2 := by unfold Sp.ip4Parse; rw [if_neg h0]
      rw [if_neg h0, e]; rfl

theorem weighbridgeref04_Parse.calls (a0 : ByteArray) (r1 : Int) (r2 : Int) (r3 : Int) (r4 : Int) (r5 : Int) (r6 : Int) (r7 : Int) (r8 : Int) (r9 : ByteArray) (r10 : ByteArray) (r11 : Int) (w : World) (h : weighbridgeref04_Parse.f a0 = some (r1, r2, r3, r4, r5, r6, r7, r8, r9, r10, r11)) :
    Calls Try.prog 20 #[.string a0] w fun e w' => e = .returned (.tuple #[.agg #[.int .i64 r1, .int .i64 r2, .int .i64 r3, .int .i64 r4, .int .i64 r5, .int .i64 r6, .int .u32 r7, .int .u32 r8, .string r9], .string r10, .int .i64 r11]) ∧ Below w.heap.size w w' := by
  have hk := weighbridgeref04_Parse_ev a0 _ h
  exact weighbridgeref04_Parse_p.calls a0 r1 r2 r3 r4 r5 r6 r7 r8 r9 r10 r11 w hk

end Go.Proofs.Ythdaldicdhpnoaa.Pr
