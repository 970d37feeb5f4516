-- Written by a program of the session (wip/tools) out of the translation, over the kit's print; with pieces of the session's own.
import Derived.Test.YtfnjohklmpiboaaGreatPr0
import Derived.Test.YtfnjohklmpiboaaGreatPr2
import Derived.Test.YtfnjohklmpiboaaGreatPr3
namespace Go.Proofs.YtfnjohklmpiboaaGreat.Pr
open Go.RowKit Go.Proofs.YtfnjohklmpiboaaGreatW.PrintWords Go.Proofs.YtfnjohklmpiboaaGreatW.PrintLast Go.Proofs.YtfnjohklmpiboaaGreatW.PrintMore
attribute [local go_sem] max2_int min2_int max_two min_two max_three min_three max_four min_four   -- for this text's walks alone
set_option linter.unusedVariables false
set_option linter.unusedSimpArgs false
open Go.Proofs.YtfnjohklmpiboaaGreat.Sp
/-! ### weighbridgeref05_word: function 74 -/
def weighbridgeref05_word.f (a0 : Int) : Option (Bool) := if a0 ≥ 0 then (some (decide (a0 ≤ 65535))) else (some false)
set_option maxHeartbeats 8000000 in
set_option maxRecDepth 100000 in
theorem weighbridgeref05_word.calls (a0 : Int) (r : Bool) (w : World) (h : weighbridgeref05_word.f a0 = some r) :
  Calls Tryz.prog 74 #[.int .i64 a0] w fun e w' => e = .returned (.bool r) ∧ Drawn0 w w' := by
 have H : (if a0 ≥ 0 then (some (decide (a0 ≤ 65535))) else (some false)) = some r := h
 clear h
 by_cases c2 : a0 ≥ 0
 ·rw [if_pos c2] at H
  have c2b0 : decide (0 ≤ a0) = true := decide_eq_true c2
  clear c2
  obtain rfl := Option.some.inj H
  go_enter Tryz.func74, Tryz.ntmps74
  go_wp2
  go_ret
  exact ⟨RS, DW⟩
 rw [if_neg c2] at H
 have c2b0 : decide (0 ≤ a0) = false := decide_eq_false c2
 clear c2
 obtain rfl := Option.some.inj H
 go_enter Tryz.func74, Tryz.ntmps74
 go_wp2
 go_ret
 exact ⟨RS, DW⟩

/-! ### weighbridgeref05_Right_p: function 53 -/
def weighbridgeref05_Right_p.f (a0_0 : Int) (a0_1 : Int) (a0_2 : Int) (a0_3 : Int) (a0_4 : Int) (a0_5 : Int) (a0_6 : Int) (a0_7 : ByteArray) : Option (Bool) := (weighbridgeref04_OptsRight.f a0_7).bind fun t140 => ((weighbridgeref05_word.f a0_0).bind fun t141 => (if t141 = true then ((weighbridgeref05_word.f a0_1).bind fun t142 => (if t142 = true then ((weighbridgeref05_word.f a0_5).bind fun t143 => (if t143 = true then ((weighbridgeref05_word.f a0_6).bind fun t144 => (if t144 = true then (if a0_4 ≥ 0 then (if a0_4 ≤ 4095 then (if (a0_7.size : Int) ≤ 40 then (if ((a0_7.size : Int) % 4) = 0 then (some t140) else (some false)) else (some false)) else (some false)) else (some false)) else (some false))) else (some false))) else (some false))) else (some false)))
set_option maxHeartbeats 8000000 in
set_option maxRecDepth 100000 in
theorem weighbridgeref05_Right_p.calls (a0_0 : Int) (a0_1 : Int) (a0_2 : Int) (a0_3 : Int) (a0_4 : Int) (a0_5 : Int) (a0_6 : Int) (a0_7 : ByteArray) (r : Bool) (w : World) (h : weighbridgeref05_Right_p.f a0_0 a0_1 a0_2 a0_3 a0_4 a0_5 a0_6 a0_7 = some r) :
  Calls Tryz.prog 53 #[.agg #[.int .i64 a0_0, .int .i64 a0_1, .int .u32 a0_2, .int .u32 a0_3, .int .i64 a0_4, .int .i64 a0_5, .int .i64 a0_6, .string a0_7]] w fun e w' => e = .returned (.bool r) ∧ Below w.heap.size w w' := by
 have hu80 := Tryz.underlying80
 have HB := AA (Below.refl w.heap.size w)
 have H := h
 unfold weighbridgeref05_Right_p.f at H
 clear h
 replace H := OB H
 obtain ⟨t140, A2, H⟩ := H
 (try set_option simprocs false in dsimp only at H)
 replace H := OB H
 obtain ⟨t141, A3, H⟩ := H
 (try set_option simprocs false in dsimp only at H)
 go_enter Tryz.func53, Tryz.ntmps53
 go_upto_region 2 with (first | ((with_reducible refine gate_dst (N := 1) rfl ?_); (try (refine gate_guard (by rfl) ?_; dsimp only)); refine bx 1 80 (rr8 a0_0 a0_1 a0_2 a0_3 a0_4 a0_5 a0_6 a0_7) ?_; intro gb139 hg w17 hbox hb; have BK139 := AA hbox; have GW139 := GS hg HB; have GE139 := GS hg HB; replace HB := BS HB hb; clear hb hbox hg; have hz18 := blk8 BK139.out) | ((with_reducible refine gkx 50 rfl ?_); refine gL 6 Tryz.func50 rfl (weighbridgeref04_OptsRight.calls a0_7 t140 _ A2.out) ?_; rintro w' ⟨nd, rfl⟩))
 by_cases c4 : t141 = true
 rotate_left
 ·replace c4 := Bool.eq_false_iff.mpr c4
  subst c4
  replace H := IFN H
  obtain rfl := Option.some.inj H
  go_wp2_with (first | ((with_reducible refine gkx 74 rfl ?_); refine gL 9 Tryz.func74 rfl (weighbridgeref05_word.calls a0_0 false _ A3.out) ?_; rintro w' ⟨nd, rfl⟩))
  go_ret
  exact ⟨RT, BW HB⟩
 subst c4
 first | rw [if_pos rfl] at H | rw [if_pos trivial] at H
 replace H := OB H
 obtain ⟨t142, A5, H⟩ := H
 (try set_option simprocs false in dsimp only at H)
 by_cases c6 : t142 = true
 rotate_left
 ·replace c6 := Bool.eq_false_iff.mpr c6
  subst c6
  replace H := IFN H
  obtain rfl := Option.some.inj H
  go_wp2_with (first | ((with_reducible refine gkx 74 rfl ?_); refine gL 9 Tryz.func74 rfl (weighbridgeref05_word.calls a0_0 true _ A3.out) ?_; rintro w' ⟨nd, rfl⟩) | (go_at_call 74; (with_reducible refine (weighbridgeref05_word.calls a0_1 false _ A5.out).mono ?_); rintro e w' ⟨rfl, ⟨nd, rfl⟩⟩))
  go_ret
  exact ⟨RT, BW HB⟩
 subst c6
 first | rw [if_pos rfl] at H | rw [if_pos trivial] at H
 replace H := OB H
 obtain ⟨t143, A7, H⟩ := H
 (try set_option simprocs false in dsimp only at H)
 by_cases c8 : t143 = true
 rotate_left
 ·replace c8 := Bool.eq_false_iff.mpr c8
  subst c8
  replace H := IFN H
  obtain rfl := Option.some.inj H
  go_wp2_with (first | ((with_reducible refine gkx 74 rfl ?_); refine gL 9 Tryz.func74 rfl (weighbridgeref05_word.calls a0_0 true _ A3.out) ?_; rintro w' ⟨nd, rfl⟩) | (go_at_call 74; (with_reducible refine (weighbridgeref05_word.calls a0_1 true _ A5.out).mono ?_); rintro e w' ⟨rfl, ⟨nd, rfl⟩⟩) | (go_at_call 74; (with_reducible refine (weighbridgeref05_word.calls a0_5 false _ A7.out).mono ?_); rintro e w' ⟨rfl, ⟨nd, rfl⟩⟩))
  go_ret
  exact ⟨RT, BW HB⟩
 subst c8
 first | rw [if_pos rfl] at H | rw [if_pos trivial] at H
 replace H := OB H
 obtain ⟨t144, A9, H⟩ := H
 (try set_option simprocs false in dsimp only at H)
 by_cases c10 : t144 = true
 rotate_left
 ·replace c10 := Bool.eq_false_iff.mpr c10
  subst c10
  replace H := IFN H
  obtain rfl := Option.some.inj H
  go_wp2_with (first | ((with_reducible refine gkx 74 rfl ?_); refine gL 9 Tryz.func74 rfl (weighbridgeref05_word.calls a0_0 true _ A3.out) ?_; rintro w' ⟨nd, rfl⟩) | (go_at_call 74; (with_reducible refine (weighbridgeref05_word.calls a0_1 true _ A5.out).mono ?_); rintro e w' ⟨rfl, ⟨nd, rfl⟩⟩) | (go_at_call 74; (with_reducible refine (weighbridgeref05_word.calls a0_5 true _ A7.out).mono ?_); rintro e w' ⟨rfl, ⟨nd, rfl⟩⟩) | (go_at_call 74; (with_reducible refine (weighbridgeref05_word.calls a0_6 false _ A9.out).mono ?_); rintro e w' ⟨rfl, ⟨nd, rfl⟩⟩))
  go_ret
  exact ⟨RT, BW HB⟩
 subst c10
 first | rw [if_pos rfl] at H | rw [if_pos trivial] at H
 by_cases c11 : a0_4 ≥ 0
 rotate_left
 ·rw [if_neg c11] at H
  have c11b0 : decide (0 ≤ a0_4) = false := decide_eq_false c11
  clear c11
  obtain rfl := Option.some.inj H
  go_wp2_with (first | ((with_reducible refine gkx 74 rfl ?_); refine gL 9 Tryz.func74 rfl (weighbridgeref05_word.calls a0_0 true _ A3.out) ?_; rintro w' ⟨nd, rfl⟩) | (go_at_call 74; (with_reducible refine (weighbridgeref05_word.calls a0_1 true _ A5.out).mono ?_); rintro e w' ⟨rfl, ⟨nd, rfl⟩⟩) | (go_at_call 74; (with_reducible refine (weighbridgeref05_word.calls a0_5 true _ A7.out).mono ?_); rintro e w' ⟨rfl, ⟨nd, rfl⟩⟩) | (go_at_call 74; (with_reducible refine (weighbridgeref05_word.calls a0_6 true _ A9.out).mono ?_); rintro e w' ⟨rfl, ⟨nd, rfl⟩⟩))
  go_ret
  exact ⟨RT, BW HB⟩
 rw [if_pos c11] at H
 have c11b0 : decide (0 ≤ a0_4) = true := decide_eq_true c11
 clear c11
 by_cases c12 : a0_4 ≤ 4095
 rotate_left
 ·rw [if_neg c12] at H
  have c12b0 := decide_eq_false c12
  clear c12
  obtain rfl := Option.some.inj H
  go_wp2_with (first | ((with_reducible refine gkx 74 rfl ?_); refine gL 9 Tryz.func74 rfl (weighbridgeref05_word.calls a0_0 true _ A3.out) ?_; rintro w' ⟨nd, rfl⟩) | (go_at_call 74; (with_reducible refine (weighbridgeref05_word.calls a0_1 true _ A5.out).mono ?_); rintro e w' ⟨rfl, ⟨nd, rfl⟩⟩) | (go_at_call 74; (with_reducible refine (weighbridgeref05_word.calls a0_5 true _ A7.out).mono ?_); rintro e w' ⟨rfl, ⟨nd, rfl⟩⟩) | (go_at_call 74; (with_reducible refine (weighbridgeref05_word.calls a0_6 true _ A9.out).mono ?_); rintro e w' ⟨rfl, ⟨nd, rfl⟩⟩))
  go_ret
  exact ⟨RT, BW HB⟩
 rw [if_pos c12] at H
 have c12b0 := decide_eq_true c12
 clear c12
 by_cases c13 : (a0_7.size : Int) ≤ 40
 ·rw [if_pos c13] at H
  have c13b0 := decide_eq_true c13
  have c13b1 : decide (a0_7.size ≤ 40) = true := decide_eq_true (by omega)
  clear c13
  by_cases c14 : ((a0_7.size : Int) % 4) = 0
  ·rw [if_pos c14] at H
   have c14b0 := BT c14
   have c14b1 := NF c14
   clear c14
   obtain rfl := Option.some.inj H
   go_wp2_with (first | ((with_reducible refine gkx 74 rfl ?_); refine gL 9 Tryz.func74 rfl (weighbridgeref05_word.calls a0_0 true _ A3.out) ?_; rintro w' ⟨nd, rfl⟩) | (go_at_call 74; (with_reducible refine (weighbridgeref05_word.calls a0_1 true _ A5.out).mono ?_); rintro e w' ⟨rfl, ⟨nd, rfl⟩⟩) | (go_at_call 74; (with_reducible refine (weighbridgeref05_word.calls a0_5 true _ A7.out).mono ?_); rintro e w' ⟨rfl, ⟨nd, rfl⟩⟩) | (go_at_call 74; (with_reducible refine (weighbridgeref05_word.calls a0_6 true _ A9.out).mono ?_); rintro e w' ⟨rfl, ⟨nd, rfl⟩⟩))
   go_ret
   exact ⟨RT, BW HB⟩
  rw [if_neg c14] at H
  have c14b0 := BF c14
  have c14b1 := NT c14
  obtain rfl := Option.some.inj H
  go_wp2_with (first | ((with_reducible refine gkx 74 rfl ?_); refine gL 9 Tryz.func74 rfl (weighbridgeref05_word.calls a0_0 true _ A3.out) ?_; rintro w' ⟨nd, rfl⟩) | (go_at_call 74; (with_reducible refine (weighbridgeref05_word.calls a0_1 true _ A5.out).mono ?_); rintro e w' ⟨rfl, ⟨nd, rfl⟩⟩) | (go_at_call 74; (with_reducible refine (weighbridgeref05_word.calls a0_5 true _ A7.out).mono ?_); rintro e w' ⟨rfl, ⟨nd, rfl⟩⟩) | (go_at_call 74; (with_reducible refine (weighbridgeref05_word.calls a0_6 true _ A9.out).mono ?_); rintro e w' ⟨rfl, ⟨nd, rfl⟩⟩))
  go_ret
  exact ⟨RT, BW HB⟩
 rw [if_neg c13] at H
 have c13b0 := decide_eq_false c13
 have c13b1 : decide (a0_7.size ≤ 40) = false := decide_eq_false (by omega)
 clear c13
 obtain rfl := Option.some.inj H
 go_wp2_with (first | ((with_reducible refine gkx 74 rfl ?_); refine gL 9 Tryz.func74 rfl (weighbridgeref05_word.calls a0_0 true _ A3.out) ?_; rintro w' ⟨nd, rfl⟩) | (go_at_call 74; (with_reducible refine (weighbridgeref05_word.calls a0_1 true _ A5.out).mono ?_); rintro e w' ⟨rfl, ⟨nd, rfl⟩⟩) | (go_at_call 74; (with_reducible refine (weighbridgeref05_word.calls a0_5 true _ A7.out).mono ?_); rintro e w' ⟨rfl, ⟨nd, rfl⟩⟩) | (go_at_call 74; (with_reducible refine (weighbridgeref05_word.calls a0_6 true _ A9.out).mono ?_); rintro e w' ⟨rfl, ⟨nd, rfl⟩⟩))
 go_ret
 exact ⟨RT, BW HB⟩

theorem r5_word (n : Int) : weighbridgeref05_word.f n = some (Sp.fits 2 n) := by
 have f : Sp.fits 2 n = decide (0 ≤ n ∧ n ≤ 65535) := Sp.fits2_b
 unfold weighbridgeref05_word.f
 rw [f]
 by_cases h : n ≥ 0
 ·rw [if_pos h]
  by_cases h2 : n ≤ 65535
  ·rw [decide_eq_true h2, decide_eq_true (by omega : 0 ≤ n ∧ n ≤ 65535)]
  rw [decide_eq_false h2, decide_eq_false (by omega : ¬ (0 ≤ n ∧ n ≤ 65535))]
 rw [if_neg h, decide_eq_false (by omega : ¬ (0 ≤ n ∧ n ≤ 65535))]
theorem r5_right_no {a b c d e : Int} {o : List UInt8} (h : ¬ Sp.tcpRight a b c d e o = true) : Sp.tcpRight a b c d e o = false := Sp.bool_no h
def weighbridgeref05_Right.f (a0_0 a0_1 a0_2 a0_3 a0_4 a0_5 a0_6 : Int) (a0_7 : ByteArray) : Option Bool := if a0_7.size ≤ 140737488355328 then some (Sp.tcpRight a0_0 a0_1 a0_4 a0_5 a0_6 (bl a0_7)) else none
theorem weighbridgeref05_Right_eq {a0_0 a0_1 a0_2 a0_3 a0_4 a0_5 a0_6 : Int} {a0_7 : ByteArray} (h : a0_7.size ≤ 140737488355328) : weighbridgeref05_Right.f a0_0 a0_1 a0_2 a0_3 a0_4 a0_5 a0_6 a0_7 = some (Sp.tcpRight a0_0 a0_1 a0_4 a0_5 a0_6 (bl a0_7)) := by unfold weighbridgeref05_Right.f; exact if_pos h
theorem weighbridgeref05_Right_ev (a0_0 a0_1 a0_2 a0_3 a0_4 a0_5 a0_6 : Int) (a0_7 : ByteArray) (r : Bool) (h : weighbridgeref05_Right.f a0_0 a0_1 a0_2 a0_3 a0_4 a0_5 a0_6 a0_7 = some r) : weighbridgeref05_Right_p.f a0_0 a0_1 a0_2 a0_3 a0_4 a0_5 a0_6 a0_7 = some r := by
 unfold weighbridgeref05_Right.f at h
 split at h
 case isFalse => cases h
 case isTrue hs =>
  rw [← h]
  unfold weighbridgeref05_Right_p.f
  have hl := bl_length a0_7
  rw [weighbridgeref04_OptsRight_eq hs, Option.bind_some, r5_word, Option.bind_some]
  by_cases h1 : Sp.fits 2 a0_0 = true
  rotate_left
  ·rw [if_neg h1, r5_right_no (fun h => h1 (Sp.tcpRight_iff.1 h).1)]
  rw [if_pos h1, r5_word, Option.bind_some]
  by_cases h2 : Sp.fits 2 a0_1 = true
  rotate_left
  ·rw [if_neg h2, r5_right_no (fun h => h2 (Sp.tcpRight_iff.1 h).2.1)]
  rw [if_pos h2, r5_word, Option.bind_some]
  by_cases h3 : Sp.fits 2 a0_5 = true
  rotate_left
  ·rw [if_neg h3, r5_right_no (fun h => h3 (Sp.tcpRight_iff.1 h).2.2.1)]
  rw [if_pos h3, r5_word, Option.bind_some]
  by_cases h4 : Sp.fits 2 a0_6 = true
  ·rw [if_pos h4]
   by_cases h5 : a0_4 ≥ 0
   ·rw [if_pos h5]
    by_cases h6 : a0_4 ≤ 4095
    ·rw [if_pos h6]
     by_cases h7 : (a0_7.size : Int) ≤ 40
     ·rw [if_pos h7]
      by_cases h8 : ((a0_7.size : Int) % 4) = 0
      ·rw [if_pos h8]
       by_cases h9 : Sp.optsOk (bl a0_7) = true
       ·rw [h9, Sp.tcpRight_iff.2 ⟨h1, h2, h3, h4, ⟨by omega, by omega⟩, ⟨by omega, by omega⟩, h9⟩]
       rw [Sp.bool_no h9, r5_right_no (fun h => h9 (Sp.tcpRight_iff.1 h).2.2.2.2.2.2)]
      rw [if_neg h8, r5_right_no (fun h => by have := (Sp.tcpRight_iff.1 h).2.2.2.2.2.1; omega)]
     rw [if_neg h7, r5_right_no (fun h => by have := (Sp.tcpRight_iff.1 h).2.2.2.2.2.1; omega)]
    rw [if_neg h6, r5_right_no (fun h => by have := (Sp.tcpRight_iff.1 h).2.2.2.2.1; omega)]
   rw [if_neg h5, r5_right_no (fun h => by have := (Sp.tcpRight_iff.1 h).2.2.2.2.1; omega)]
  rw [if_neg h4, r5_right_no (fun h => h4 (Sp.tcpRight_iff.1 h).2.2.2.1)]
theorem weighbridgeref05_Right.calls (a0_0 : Int) (a0_1 : Int) (a0_2 : Int) (a0_3 : Int) (a0_4 : Int) (a0_5 : Int) (a0_6 : Int) (a0_7 : ByteArray) (r : Bool) (w : World) (h : weighbridgeref05_Right.f a0_0 a0_1 a0_2 a0_3 a0_4 a0_5 a0_6 a0_7 = some r) :
  Calls Tryz.prog 53 #[.agg #[.int .i64 a0_0, .int .i64 a0_1, .int .u32 a0_2, .int .u32 a0_3, .int .i64 a0_4, .int .i64 a0_5, .int .i64 a0_6, .string a0_7]] w fun e w' => e = .returned (.bool r) ∧ Below w.heap.size w w' := by
 have hk := weighbridgeref05_Right_ev a0_0 a0_1 a0_2 a0_3 a0_4 a0_5 a0_6 a0_7 _ h
 exact weighbridgeref05_Right_p.calls a0_0 a0_1 a0_2 a0_3 a0_4 a0_5 a0_6 a0_7 r w hk

/-! ### weighbridgeref05_num: function 54 -/
def weighbridgeref05_num.f (a0 : Int) (a1 : Int) : Option (ByteArray) := (weighbridgeref04_Num.f a0 a1).bind fun t145 => (some t145)
set_option maxHeartbeats 8000000 in
set_option maxRecDepth 100000 in
theorem weighbridgeref05_num.calls (a0 : Int) (a1 : Int) (r : ByteArray) (w : World) (h : weighbridgeref05_num.f a0 a1 = some r) :
  Calls Tryz.prog 54 #[.int .i64 a0, .int .i64 a1] w fun e w' => e = .returned (.string r) ∧ Below w.heap.size w w' := by
 have HB := AA (Below.refl w.heap.size w)
 have H : ((weighbridgeref04_Num.f a0 a1).bind fun t145 => (some t145)) = some r := h
 clear h
 replace H := OB H
 obtain ⟨t145, A3, H⟩ := H
 (try set_option simprocs false in dsimp only at H)
 obtain rfl := Option.some.inj H
 go_enter Tryz.func54, Tryz.ntmps54
 go_wp2_with (first | ((with_reducible refine gkx 34 rfl ?_); refine gL 7 Tryz.func34 rfl (weighbridgeref04_Num.calls a0 a1 t145 _ A3.out) ?_; rintro w4 hb; (try clear A3); replace HB := BS HB hb; (try clear hb)))
 go_ret
 exact ⟨RT, BW HB⟩

/-! ### weighbridgeref05_Build_p: function 35 -/
def weighbridgeref05_Build_p.f (a0_0 : Int) (a0_1 : Int) (a0_2 : Int) (a0_3 : Int) (a0_4 : Int) (a0_5 : Int) (a0_6 : Int) (a0_7 : ByteArray) (a1 : ByteArray) : Option (ByteArray × Int) := (weighbridgeref05_Right.f a0_0 a0_1 a0_2 a0_3 a0_4 a0_5 a0_6 a0_7).bind fun t147 => (if t147 = true then (if (wrap64 ((wrap64 (20 + (a0_7.size : Int))) + (a1.size : Int))) > 1500 then (some ((⟨#[]⟩ : ByteArray), 18)) else ((weighbridgeref05_num.f 2 a0_0).bind fun t148 => ((weighbridgeref05_num.f 2 a0_1).bind fun t149 => (if t148.size + t149.size ≤ 9223372036854775807 then ((weighbridgeref05_num.f 4 (wrap64 (a0_2))).bind fun t150 => (if (t148 ++ t149).size + t150.size ≤ 9223372036854775807 then ((weighbridgeref05_num.f 4 (wrap64 (a0_3))).bind fun t151 => (if ((t148 ++ t149) ++ t150).size + t151.size ≤ 9223372036854775807 then ((weighbridgeref05_num.f 2 (wrap64 ((wrap64 (4096 * (wrap64 (Int.tdiv (wrap64 (20 + (a0_7.size : Int))) 4)))) + a0_4))).bind fun t152 => (if (((t148 ++ t149) ++ t150) ++ t151).size + t152.size ≤ 9223372036854775807 then ((weighbridgeref05_num.f 2 a0_5).bind fun t153 => (if ((((t148 ++ t149) ++ t150) ++ t151) ++ t152).size + t153.size ≤ 9223372036854775807 then (if (((((t148 ++ t149) ++ t150) ++ t151) ++ t152) ++ t153).size + 2 ≤ 9223372036854775807 then ((weighbridgeref05_num.f 2 a0_6).bind fun t154 => (if ((((((t148 ++ t149) ++ t150) ++ t151) ++ t152) ++ t153) ++ (⟨#[0, 0]⟩ : ByteArray)).size + t154.size ≤ 9223372036854775807 then (if (((((((t148 ++ t149) ++ t150) ++ t151) ++ t152) ++ t153) ++ (⟨#[0, 0]⟩ : ByteArray)) ++ t154).size + a0_7.size ≤ 9223372036854775807 then (if ((((((((t148 ++ t149) ++ t150) ++ t151) ++ t152) ++ t153) ++ (⟨#[0, 0]⟩ : ByteArray)) ++ t154) ++ a0_7).size + a1.size ≤ 9223372036854775807 then (some (((((((((t148 ++ t149) ++ t150) ++ t151) ++ t152) ++ t153) ++ (⟨#[0, 0]⟩ : ByteArray)) ++ t154) ++ a0_7) ++ a1, 0)) else (none)) else (none)) else (none))) else (none)) else (none))) else (none))) else (none))) else (none))) else (none))))) else (some ((⟨#[]⟩ : ByteArray), 1)))
def weighbridgeref05_Build_p.T7 : Bool × List (List Nat × List Nat) := (true, [([], []), ([0], [0]), ([1], [1]), ([], []), ([3], [3]), ([4, 2], [4]), ([2, 5], [2, 5]), ([], []), ([7], [7]), ([8], [8]), ([9, 5], [9]), ([6, 10], [6, 10]), ([], []), ([12], [12]), ([13], [13]), ([14, 10], [14]), ([11, 15], [11, 15]), ([], []), ([17], [17]), ([18], [18]), ([], []), ([20], [20]), ([19, 21], [19, 21]), ([22, 15], [22]), ([16, 23], [16, 23]), ([], []), ([25], [25]), ([26, 23], [26]), ([24, 27], [24, 27]), ([28], [28]), ([], []), ([30], [30]), ([31, 27], [31]), ([29, 32], [29, 32]), ([], []), ([34], [34]), ([33, 35], [33, 35]), ([], []), ([36, 37], [36, 37]), ([38, 32, 0, 1, 2, 3, 4, 5, 6, 7, 8, 9, 10, 11, 12, 13, 14, 15, 16, 17, 18, 19, 20, 21, 22, 23, 24, 25, 26, 27, 28, 29, 30, 31, 32, 33, 34, 35, 36, 37, 38], [38]), ([39, 0, 1, 2, 3, 4, 5, 6, 7, 8, 9, 10, 11, 12, 13, 14, 15, 16, 17, 18, 19, 20, 21, 22, 23, 24, 25, 26, 27, 28, 29, 30, 31, 32, 33, 34, 35, 36, 37, 38, 39], [])])
def weighbridgeref05_Build_p.B7 : List Nat := [0, 1, 3, 0, 8, 31, 63, 0, 128, 384, 959, 2047, 0, 4096, 12288, 30655, 65535, 0, 131072, 393216, 0, 1048576, 4063232, 8320959, 16777215, 0, 33554432, 117372863, 268435455, 536870911, 0, 1073741824, 3472816063, 8589934591, 0, 17179869184, 68719476735, 0, 274877906943, 549755813887, 1099511627775]
theorem weighbridgeref05_Build_p.tab7 : rtab .any (opsOf Tryz.f35 7) = weighbridgeref05_Build_p.T7 := by kernel_rfl
theorem weighbridgeref05_Build_p.bits7 : waitsOk weighbridgeref05_Build_p.T7.2 weighbridgeref05_Build_p.B7 = true := by kernel_rfl
set_option maxHeartbeats 8000000 in
set_option maxRecDepth 100000 in
theorem weighbridgeref05_Build_p.calls (a0_0 : Int) (a0_1 : Int) (a0_2 : Int) (a0_3 : Int) (a0_4 : Int) (a0_5 : Int) (a0_6 : Int) (a0_7 : ByteArray) (a1 : ByteArray) (r1 : ByteArray) (r2 : Int) (w : World) (h : weighbridgeref05_Build_p.f a0_0 a0_1 a0_2 a0_3 a0_4 a0_5 a0_6 a0_7 a1 = some (r1, r2)) :
  Calls Tryz.prog 35 #[.agg #[.int .i64 a0_0, .int .i64 a0_1, .int .u32 a0_2, .int .u32 a0_3, .int .i64 a0_4, .int .i64 a0_5, .int .i64 a0_6, .string a0_7], .string a1] w fun e w' => e = .returned (.tuple #[.string r1, .int .i64 r2]) ∧ Below w.heap.size w w' := by
 have hu80 := Tryz.underlying80
 have HB := AA (Below.refl w.heap.size w)
 have H := h
 unfold weighbridgeref05_Build_p.f at H
 clear h
 replace H := OB H
 obtain ⟨t147, A3, H⟩ := H
 (try set_option simprocs false in dsimp only at H)
 go_enter Tryz.func35, Tryz.ntmps35
 go_upto_if 11 with (first | ((with_reducible refine gate_dst (N := 2) rfl ?_); refine bx 2 80 (rr8 a0_0 a0_1 a0_2 a0_3 a0_4 a0_5 a0_6 a0_7) ?_; intro gb146 hg w26 hbox hb; have BK146 := AA hbox; have GW146 := GS hg HB; have GE146 := GS hg HB; replace HB := BS HB hb; clear hb hbox hg; have hz27 := blk8 BK146.out) | ((with_reducible refine gkx 53 rfl ?_); refine gL 9 Tryz.func53 rfl (weighbridgeref05_Right.calls a0_0 a0_1 a0_2 a0_3 a0_4 a0_5 a0_6 a0_7 _ _ A3.out) ?_; rintro w28 hb; (try clear A3); replace BK146 := BB BK146 hb; replace HB := BS HB hb; (try clear hb); have hz29 := blk8 BK146.out))
 by_cases c4 : t147 = true
 rotate_left
 ·replace c4 := Bool.eq_false_iff.mpr c4
  subst c4
  replace H := IFN H
  simp only [Option.some.injEq, Prod.mk.injEq] at H
  obtain ⟨rfl, rfl⟩ := H
  go_wp2_with (fail)
  go_ret2
  exact ⟨RT, BW HB⟩
 subst c4
 first | rw [if_pos rfl] at H | rw [if_pos trivial] at H
 by_cases c5 : (wrap64 ((wrap64 (20 + (a0_7.size : Int))) + (a1.size : Int))) > 1500
 ·rw [if_pos c5] at H
  have c5b0 : decide (1500 < (wrap64 ((wrap64 (20 + (a0_7.size : Int))) + (a1.size : Int)))) = true := decide_eq_true c5
  clear c5
  simp only [Option.some.injEq, Prod.mk.injEq] at H
  obtain ⟨rfl, rfl⟩ := H
  go_wp2_with (fail)
  go_ret2
  exact ⟨RT, BW HB⟩
 rw [if_neg c5] at H
 have c5b0 : decide (1500 < (wrap64 ((wrap64 (20 + (a0_7.size : Int))) + (a1.size : Int)))) = false := decide_eq_false c5
 clear c5
 replace H := OB H
 obtain ⟨t148, A10, H⟩ := H
 (try set_option simprocs false in dsimp only at H)
 replace H := OB H
 obtain ⟨t149, A11, H⟩ := H
 (try set_option simprocs false in dsimp only at H)
 replace H := IT H
 obtain ⟨c12, H⟩ := H
 have c12b0 := eq_true c12
 have c12b1 := decide_eq_true c12
 try have c12b2 := eq_false (Nat.not_lt.2 c12)
 replace H := OB H
 obtain ⟨t150, A13, H⟩ := H
 (try set_option simprocs false in dsimp only at H)
 replace H := IT H
 obtain ⟨c14, H⟩ := H
 have c14b0 := eq_true c14
 have c14b1 := decide_eq_true c14
 try have c14b2 := eq_false (Nat.not_lt.2 c14)
 (try (have c14r := c14; simp only [ByteArray.size_append, ByteArray.size_extract, Nat.sub_zero, Nat.min_self] at c14r; have c14rt := eq_true c14r; have c14ru := eq_false (Nat.not_lt.mpr c14r); clear c14r))
 (try (have c14s := c14; simp [c12b0] at c14s; have c14t := eq_true c14s; have c14u := eq_false (Nat.not_lt.mpr c14s); clear c14s))
 replace H := OB H
 obtain ⟨t151, A15, H⟩ := H
 (try set_option simprocs false in dsimp only at H)
 replace H := IT H
 obtain ⟨c16, H⟩ := H
 have c16b0 := eq_true c16
 have c16b1 := decide_eq_true c16
 try have c16b2 := eq_false (Nat.not_lt.2 c16)
 (try (have c16r := c16; simp only [ByteArray.size_append, ByteArray.size_extract, Nat.sub_zero, Nat.min_self] at c16r; have c16rt := eq_true c16r; have c16ru := eq_false (Nat.not_lt.mpr c16r); clear c16r))
 (try (have c16s := c16; simp [c12b0, c14b0] at c16s; have c16t := eq_true c16s; have c16u := eq_false (Nat.not_lt.mpr c16s); clear c16s))
 replace H := OB H
 obtain ⟨t152, A17, H⟩ := H
 (try set_option simprocs false in dsimp only at H)
 replace H := IT H
 obtain ⟨c18, H⟩ := H
 have c18b0 := eq_true c18
 have c18b1 := decide_eq_true c18
 try have c18b2 := eq_false (Nat.not_lt.2 c18)
 (try (have c18r := c18; simp only [ByteArray.size_append, ByteArray.size_extract, Nat.sub_zero, Nat.min_self] at c18r; have c18rt := eq_true c18r; have c18ru := eq_false (Nat.not_lt.mpr c18r); clear c18r))
 (try (have c18s := c18; simp [c12b0, c14b0, c16b0] at c18s; have c18t := eq_true c18s; have c18u := eq_false (Nat.not_lt.mpr c18s); clear c18s))
 replace H := OB H
 obtain ⟨t153, A19, H⟩ := H
 (try set_option simprocs false in dsimp only at H)
 replace H := IT H
 obtain ⟨c20, H⟩ := H
 have c20b0 := eq_true c20
 have c20b1 := decide_eq_true c20
 try have c20b2 := eq_false (Nat.not_lt.2 c20)
 (try (have c20r := c20; simp only [ByteArray.size_append, ByteArray.size_extract, Nat.sub_zero, Nat.min_self] at c20r; have c20rt := eq_true c20r; have c20ru := eq_false (Nat.not_lt.mpr c20r); clear c20r))
 (try (have c20s := c20; simp [c12b0, c14b0, c16b0, c18b0] at c20s; have c20t := eq_true c20s; have c20u := eq_false (Nat.not_lt.mpr c20s); clear c20s))
 replace H := IT H
 obtain ⟨c21, H⟩ := H
 have c21b0 := eq_true c21
 have c21b1 := decide_eq_true c21
 try have c21b2 := eq_false (Nat.not_lt.2 c21)
 (try (have c21r := c21; simp only [ByteArray.size_append, ByteArray.size_extract, Nat.sub_zero, Nat.min_self] at c21r; have c21rt := eq_true c21r; have c21ru := eq_false (Nat.not_lt.mpr c21r); clear c21r))
 (try (have c21s := c21; simp [c12b0, c14b0, c16b0, c18b0, c20b0] at c21s; have c21t := eq_true c21s; have c21u := eq_false (Nat.not_lt.mpr c21s); clear c21s))
 replace H := OB H
 obtain ⟨t154, A22, H⟩ := H
 (try set_option simprocs false in dsimp only at H)
 replace H := IT H
 obtain ⟨c23, H⟩ := H
 have c23b0 := eq_true c23
 have c23b1 := decide_eq_true c23
 try have c23b2 := eq_false (Nat.not_lt.2 c23)
 (try (have c23r := c23; simp only [ByteArray.size_append, ByteArray.size_extract, Nat.sub_zero, Nat.min_self] at c23r; (try rw [show (⟨#[0, 0]⟩ : ByteArray).size = 2 from rfl] at c23r); have c23rt := eq_true c23r; have c23ru := eq_false (Nat.not_lt.mpr c23r); clear c23r))
 (try (have c23s := c23; simp [c12b0, c14b0, c16b0, c18b0, c20b0, c21b0] at c23s; have c23t := eq_true c23s; have c23u := eq_false (Nat.not_lt.mpr c23s); clear c23s))
 replace H := IT H
 obtain ⟨c24, H⟩ := H
 have c24b0 := eq_true c24
 have c24b1 := decide_eq_true c24
 try have c24b2 := eq_false (Nat.not_lt.2 c24)
 (try (have c24r := c24; simp only [ByteArray.size_append, ByteArray.size_extract, Nat.sub_zero, Nat.min_self] at c24r; (try rw [show (⟨#[0, 0]⟩ : ByteArray).size = 2 from rfl] at c24r); have c24rt := eq_true c24r; have c24ru := eq_false (Nat.not_lt.mpr c24r); clear c24r))
 (try (have c24s := c24; simp [c12b0, c14b0, c16b0, c18b0, c20b0, c21b0, c23b0] at c24s; have c24t := eq_true c24s; have c24u := eq_false (Nat.not_lt.mpr c24s); clear c24s))
 replace H := IT H
 obtain ⟨c25, H⟩ := H
 have c25b0 := eq_true c25
 have c25b1 := decide_eq_true c25
 try have c25b2 := eq_false (Nat.not_lt.2 c25)
 (try (have c25r := c25; simp only [ByteArray.size_append, ByteArray.size_extract, Nat.sub_zero, Nat.min_self] at c25r; (try rw [show (⟨#[0, 0]⟩ : ByteArray).size = 2 from rfl] at c25r); have c25rt := eq_true c25r; have c25ru := eq_false (Nat.not_lt.mpr c25r); clear c25r))
 (try (have c25s := c25; simp [c12b0, c14b0, c16b0, c18b0, c20b0, c21b0, c23b0, c24b0] at c25s; have c25t := eq_true c25s; have c25u := eq_false (Nat.not_lt.mpr c25s); clear c25s))
 simp only [Option.some.injEq, Prod.mk.injEq] at H
 obtain ⟨rfl, rfl⟩ := H
 try go_wp2_with (fail)
 replace BK146 := AA (blk_drew BK146.out)
 replace HB := AA (below_drew1 HB.out)
 refine start_ (n := 41) (S := fun w' => c8 gb146 a0_0 a0_1 a0_2 a0_3 a0_4 a0_5 a0_6 a0_7 w') (ds := []) (bm 41 0x0) (by kernel_rfl) rfl rfl (HCs BK146) (fun hHeld => ?_); refine with_tabW weighbridgeref05_Build_p.tab7 weighbridgeref05_Build_p.bits7 (fun HT_ HW_ => ?_)
 generalize w28.drew = w30 at BK146 HB hHeld ⊢
 refine pu 0 21 (bm 41 0x1) HT_ ?_
 refine pu 3 24 (bm 41 0x9) HT_ ?_
 refine pu 7 28 (bm 41 0x89) HT_ ?_
 refine pu 12 33 (bm 41 0x1089) HT_ ?_
 refine pu 17 38 (bm 41 0x21089) HT_ ?_
 refine pu 18 39 (bm 41 0x61089) HT_ ?_
 refine pu 19 40 (bm 41 0xe1089) HT_ ?_
 refine pu 20 41 (bm 41 0x1e1089) HT_ ?_
 refine pu 25 46 (bm 41 0x21e1089) HT_ ?_
 refine pu 30 51 (bm 41 0x421e1089) HT_ ?_
 refine pu 34 55 (bm 41 0x4421e1089) HT_ ?_
 refine pu 37 58 (bm 41 0x24421e1089) HT_ ?_
 refine tw 1 22 (bm 41 0x24421e108b) HT_ HW_ hHeld ?_
 refine tw 4 25 (bm 41 0x24421e109b) HT_ HW_ hHeld ?_
 refine tw 8 29 (bm 41 0x24421e119b) HT_ HW_ hHeld ?_
 refine pu 9 30 (bm 41 0x24421e139b) HT_ ?_
 refine tw 13 34 (bm 41 0x24421e339b) HT_ HW_ hHeld ?_
 refine pu 14 35 (bm 41 0x24421e739b) HT_ ?_
 refine tw 21 42 (bm 41 0x24423e739b) HT_ HW_ hHeld ?_
 refine pu 22 43 (bm 41 0x24427e739b) HT_ ?_
 refine tw 26 47 (bm 41 0x24467e739b) HT_ HW_ hHeld ?_
 refine tw 31 52 (bm 41 0x24c67e739b) HT_ HW_ hHeld ?_
 refine tw 35 56 (bm 41 0x2cc67e739b) HT_ HW_ hHeld ?_
 refine oN 2 23 (bm 41 0x2cc67e739f) HT_ (fun K hK => ?_)
 refine gR Tryz.func54 rfl rfl (weighbridgeref05_num.calls 2 a0_0 t148 _ A10.out) ?_
 rintro w31 hb
 replace BK146 := BB BK146 hb
 replace HB := BS HB hb
 try clear hb
 refine hK.out _ _ (HCs BK146) (fun hHeld => ?_)
 clear hK K
 refine nm 23 ?_
 refine oN 5 26 (bm 41 0x2cc67e73bf) HT_ (fun K hK => ?_)
 refine gR Tryz.func54 rfl rfl (weighbridgeref05_num.calls 2 a0_1 t149 _ A11.out) ?_
 rintro w32 hb
 replace BK146 := BB BK146 hb
 replace HB := BS HB hb
 try clear hb
 refine hK.out _ _ (HCs BK146) (fun hHeld => ?_)
 clear hK K
 refine nm 26 ?_
 refine pu 6 27 (bm 41 0x2cc67e73ff) HT_ ?_
 refine oN 10 31 (bm 41 0x2cc67e77ff) HT_ (fun K hK => ?_)
 refine gR Tryz.func54 rfl rfl (weighbridgeref05_num.calls 4 (wrap64 (a0_2)) t150 _ A13.out) ?_
 rintro w33 hb
 replace BK146 := BB BK146 hb
 replace HB := BS HB hb
 try clear hb
 refine hK.out _ _ (HCs BK146) (fun hHeld => ?_)
 clear hK K
 refine nm 31 ?_
 refine pu 11 32 (bm 41 0x2cc67e7fff) HT_ ?_
 refine oN 15 36 (bm 41 0x2cc67effff) HT_ (fun K hK => ?_)
 refine gR Tryz.func54 rfl rfl (weighbridgeref05_num.calls 4 (wrap64 (a0_3)) t151 _ A15.out) ?_
 rintro w34 hb
 replace BK146 := BB BK146 hb
 replace HB := BS HB hb
 try clear hb
 refine hK.out _ _ (HCs BK146) (fun hHeld => ?_)
 clear hK K
 refine nm 36 ?_
 refine pu 16 37 (bm 41 0x2cc67fffff) HT_ ?_
 refine oN 23 44 (bm 41 0x2cc6ffffff) HT_ (fun K hK => ?_)
 refine gR Tryz.func54 rfl rfl (weighbridgeref05_num.calls 2 (wrap64 ((wrap64 (4096 * (wrap64 (Int.tdiv (wrap64 (20 + (a0_7.size : Int))) 4)))) + a0_4)) t152 _ A17.out) ?_
 rintro w35 hb
 replace BK146 := BB BK146 hb
 replace HB := BS HB hb
 try clear hb
 refine hK.out _ _ (HCs BK146) (fun hHeld => ?_)
 clear hK K
 refine nm 44 ?_
 refine pu 24 45 (bm 41 0x2cc7ffffff) HT_ ?_
 refine oN 27 48 (bm 41 0x2ccfffffff) HT_ (fun K hK => ?_)
 refine gR Tryz.func54 rfl rfl (weighbridgeref05_num.calls 2 a0_5 t153 _ A19.out) ?_
 rintro w36 hb
 replace BK146 := BB BK146 hb
 replace HB := BS HB hb
 try clear hb
 refine hK.out _ _ (HCs BK146) (fun hHeld => ?_)
 clear hK K
 refine nm 48 ?_
 refine pu 28 49 (bm 41 0x2cdfffffff) HT_ ?_
 refine pu 29 50 (bm 41 0x2cffffffff) HT_ ?_
 refine oN 32 53 (bm 41 0x2dffffffff) HT_ (fun K hK => ?_)
 refine gR Tryz.func54 rfl rfl (weighbridgeref05_num.calls 2 a0_6 t154 _ A22.out) ?_
 rintro w37 hb
 replace BK146 := BB BK146 hb
 replace HB := BS HB hb
 try clear hb
 refine hK.out _ _ (HCs BK146) (fun hHeld => ?_)
 clear hK K
 refine nm 53 ?_
 refine pu 33 54 (bm 41 0x2fffffffff) HT_ ?_
 refine pu 36 57 (bm 41 0x3fffffffff) HT_ ?_
 refine pu 38 59 (bm 41 0x7fffffffff) HT_ ?_
 refine pu 39 4 (bm 41 0xffffffffff) HT_ ?_
 refine pu 40 5 (bm 41 0x1ffffffffff) HT_ ?_
 refine done_ (done_of HT_.out (by kernel_rfl)) ?_
 try go_wp2
 go_ret2
 exact ⟨RT, BW HB⟩

theorem r5_num {a b : Int} (h : Sp.fits a b = true) : weighbridgeref05_num.f a b = some (lb (Sp.beBytes a.toNat b)) := by
 unfold weighbridgeref05_num.f; rw [weighbridgeref04_Num_yes h]; rfl
theorem r5_wrap {n : Int} (h0 : -9223372036854775808 ≤ n) (h1 : n ≤ 9223372036854775807) : wrap64 n = n := by unfold wrap64; omega
def weighbridgeref05_Build.f (a0_0 a0_1 a0_2 a0_3 a0_4 a0_5 a0_6 : Int) (a0_7 : ByteArray) (a1 : ByteArray) : Option (ByteArray × Int) := if (0 ≤ a0_2 ∧ a0_2 ≤ 4294967295) ∧ (0 ≤ a0_3 ∧ a0_3 ≤ 4294967295) ∧ a0_7.size ≤ 140737488355328 ∧ a1.size ≤ 140737488355328 then some (lb (Sp.tcpBuild a0_0 a0_1 a0_2 a0_3 a0_4 a0_5 a0_6 (bl a0_7) (bl a1)).1, (Sp.tcpBuild a0_0 a0_1 a0_2 a0_3 a0_4 a0_5 a0_6 (bl a0_7) (bl a1)).2) else none
theorem weighbridgeref05_Build_eq {a0_0 a0_1 a0_2 a0_3 a0_4 a0_5 a0_6 : Int} {a0_7 a1 : ByteArray} (h0 : 0 ≤ a0_2 ∧ a0_2 ≤ 4294967295) (h1 : 0 ≤ a0_3 ∧ a0_3 ≤ 4294967295) (h2 : a0_7.size ≤ 140737488355328) (h3 : a1.size ≤ 140737488355328) : weighbridgeref05_Build.f a0_0 a0_1 a0_2 a0_3 a0_4 a0_5 a0_6 a0_7 a1 = some (lb (Sp.tcpBuild a0_0 a0_1 a0_2 a0_3 a0_4 a0_5 a0_6 (bl a0_7) (bl a1)).1, (Sp.tcpBuild a0_0 a0_1 a0_2 a0_3 a0_4 a0_5 a0_6 (bl a0_7) (bl a1)).2) := by unfold weighbridgeref05_Build.f; exact if_pos ⟨h0, h1, h2, h3⟩
theorem r5_fits4 {n : Int} (h : 0 ≤ n ∧ n ≤ 4294967295) : Sp.fits 4 n = true := Sp.fits_iff.2 ⟨by decide, by decide, h.1, by show n < 256 ^ 4; omega⟩
theorem weighbridgeref05_Build_ev (a0_0 a0_1 a0_2 a0_3 a0_4 a0_5 a0_6 : Int) (a0_7 a1 : ByteArray) (r : ByteArray × Int) (h : weighbridgeref05_Build.f a0_0 a0_1 a0_2 a0_3 a0_4 a0_5 a0_6 a0_7 a1 = some r) : weighbridgeref05_Build_p.f a0_0 a0_1 a0_2 a0_3 a0_4 a0_5 a0_6 a0_7 a1 = some r := by
 unfold weighbridgeref05_Build.f at h
 split at h
 case isFalse => cases h
 case isTrue hs =>
  obtain ⟨s2, s3, s7, s1⟩ := hs
  rw [← h]
  unfold weighbridgeref05_Build_p.f Sp.tcpBuild
  rw [weighbridgeref05_Right_eq s7, Option.bind_some]
  have hl := bl_length a0_7
  have hb := bl_length a1
  by_cases hr : Sp.tcpRight a0_0 a0_1 a0_4 a0_5 a0_6 (bl a0_7) = true
  rotate_left
  ·rw [if_neg hr, if_neg hr]; rfl
  obtain ⟨f0, f1, f5, f6, hfl, hol, _⟩ := Sp.tcpRight_iff.1 hr
  rw [if_pos hr, if_pos hr, r5_wrap (n := 20 + (a0_7.size : Int)) (by omega) (by omega), r5_wrap (n := 20 + (a0_7.size : Int) + (a1.size : Int)) (by omega) (by omega)]
  by_cases hz : 20 + (a0_7.size : Int) + (a1.size : Int) > 1500
  ·rw [if_pos hz, if_pos (by omega)]; rfl
  have ff : Sp.fits 2 (4096 * ((20 + (a0_7.size : Int)) / 4) + a0_4) = true := Sp.fits2.2 ⟨by omega, by omega⟩
  rw [if_neg hz, if_neg (by omega), Int.tdiv_eq_ediv_of_nonneg (by omega), r5_wrap (n := (20 + (a0_7.size : Int)) / 4) (by omega) (by omega), r5_wrap (n := 4096 * ((20 + (a0_7.size : Int)) / 4)) (by omega) (by omega), r5_wrap (n := 4096 * ((20 + (a0_7.size : Int)) / 4) + a0_4) (by omega) (by omega), r5_wrap (n := a0_2) (by omega) (by omega), r5_wrap (n := a0_3) (by omega) (by omega)]
  have l2 : ∀ x, (Sp.beBytes (2 : Int).toNat x).length = 2 := fun x => by rw [Sp.beBytes_length]; rfl
  have l4 : ∀ x, (Sp.beBytes (4 : Int).toNat x).length = 4 := fun x => by rw [Sp.beBytes_length]; rfl
  have e7 : lb (bl a0_7) = a0_7 := Sp.lb_bl a0_7
  have e1 : lb (bl a1) = a1 := Sp.lb_bl a1
  rw [r5_num f0, Option.bind_some, r5_num f1, Option.bind_some, if_pos (by rw [lb_size, lb_size, l2, l2]; decide), Sp.lb_append,
   r5_num (r5_fits4 s2), Option.bind_some, if_pos (by rw [lb_size, lb_size, List.length_append, l2, l2, l4]; decide), Sp.lb_append,
   r5_num (r5_fits4 s3), Option.bind_some, if_pos (by rw [lb_size, lb_size, List.length_append, List.length_append, l2, l2, l4, l4]; decide), Sp.lb_append,
   r5_num ff, Option.bind_some, if_pos (by rw [lb_size, lb_size, List.length_append, List.length_append, List.length_append, l2, l2, l4, l4, l2]; decide), Sp.lb_append,
   r5_num f5, Option.bind_some, if_pos (by rw [lb_size, lb_size, List.length_append, List.length_append, List.length_append, List.length_append, l2, l2, l4, l4, l2, l2]; decide), Sp.lb_append,
   if_pos (by rw [lb_size, List.length_append, List.length_append, List.length_append, List.length_append, List.length_append, l2, l2, l4, l4, l2, l2]; decide), show (⟨#[0, 0]⟩ : ByteArray) = lb [0, 0] from rfl, Sp.lb_append,
   r5_num f6, Option.bind_some, if_pos (by rw [lb_size, lb_size, List.length_append, List.length_append, List.length_append, List.length_append, List.length_append, List.length_append, l2, l2, l4, l4, l2, l2, l2]; decide), Sp.lb_append]
  have hh : Sp.beBytes (2 : Int).toNat a0_0 ++ Sp.beBytes (2 : Int).toNat a0_1 ++ Sp.beBytes (4 : Int).toNat a0_2 ++ Sp.beBytes (4 : Int).toNat a0_3 ++ Sp.beBytes (2 : Int).toNat (4096 * ((20 + (a0_7.size : Int)) / 4) + a0_4) ++ Sp.beBytes (2 : Int).toNat a0_5 ++ [0, 0] ++ Sp.beBytes (2 : Int).toNat a0_6 = Sp.tcpHead a0_0 a0_1 a0_2 a0_3 a0_4 a0_5 a0_6 (bl a0_7) := by
   unfold Sp.tcpHead; rw [hl]; rfl
  rw [hh, if_pos (by rw [lb_size, Sp.tcpHead_length]; omega), if_pos (by rw [ByteArray.size_append, lb_size, Sp.tcpHead_length]; omega)]
  rw [show lb (Sp.tcpHead a0_0 a0_1 a0_2 a0_3 a0_4 a0_5 a0_6 (bl a0_7)) ++ a0_7 ++ a1 = lb (Sp.tcpHead a0_0 a0_1 a0_2 a0_3 a0_4 a0_5 a0_6 (bl a0_7) ++ bl a0_7 ++ bl a1) from Sp.bl_inj (by simp only [Sp.bl_append, Sp.bl_lb])]
theorem weighbridgeref05_Build.calls (a0_0 : Int) (a0_1 : Int) (a0_2 : Int) (a0_3 : Int) (a0_4 : Int) (a0_5 : Int) (a0_6 : Int) (a0_7 : ByteArray) (a1 : ByteArray) (r1 : ByteArray) (r2 : Int) (w : World) (h : weighbridgeref05_Build.f a0_0 a0_1 a0_2 a0_3 a0_4 a0_5 a0_6 a0_7 a1 = some (r1, r2)) :
  Calls Tryz.prog 35 #[.agg #[.int .i64 a0_0, .int .i64 a0_1, .int .u32 a0_2, .int .u32 a0_3, .int .i64 a0_4, .int .i64 a0_5, .int .i64 a0_6, .string a0_7], .string a1] w fun e w' => e = .returned (.tuple #[.string r1, .int .i64 r2]) ∧ Below w.heap.size w w' := by
 have hk := weighbridgeref05_Build_ev a0_0 a0_1 a0_2 a0_3 a0_4 a0_5 a0_6 a0_7 a1 _ h
 exact weighbridgeref05_Build_p.calls a0_0 a0_1 a0_2 a0_3 a0_4 a0_5 a0_6 a0_7 a1 r1 r2 w hk

/-! ### weighbridgeref05_get: function 96 -/
def weighbridgeref05_get.f (a0 : ByteArray) (a1 : Int) (a2 : Int) : Option (Int) := (weighbridgeref01_Get.f a0 a1 a2).bind fun bt337 => (some bt337.1)
set_option maxHeartbeats 8000000 in
set_option maxRecDepth 100000 in
theorem weighbridgeref05_get.calls (a0 : ByteArray) (a1 : Int) (a2 : Int) (r : Int) (w : World) (h : weighbridgeref05_get.f a0 a1 a2 = some r) :
  Calls Tryz.prog 96 #[.string a0, .int .i64 a1, .int .i64 a2] w fun e w' => e = .returned (.int .i64 r) ∧ Drawn0 w w' := by
 have H : ((weighbridgeref01_Get.f a0 a1 a2).bind fun bt337 => (some bt337.1)) = some r := h
 clear h
 replace H := OB H
 obtain ⟨⟨t337, t338⟩, A4, H⟩ := H
 (try set_option simprocs false in dsimp only at H)
 obtain rfl := Option.some.inj H
 go_enter Tryz.func96, Tryz.ntmps96
 go_wp2_with (first | ((with_reducible refine gkx 29 rfl ?_); refine gL 13 Tryz.func29 rfl (weighbridgeref01_Get.calls a0 a1 a2 t337 t338 _ A4.out) ?_; rintro w' ⟨nd, rfl⟩))
 go_ret
 exact ⟨RS, DW⟩

/-! ### weighbridgeref05_Parse_p: function 67 -/
def weighbridgeref05_Parse_p.j0 : Nat → ByteArray → Int → Bool → Option (Int × Int × Int × Int × Int × Int × Int × ByteArray × ByteArray × Int)
 | 0, _, _, _ => none
 | k + 1, x0, x5, x23 => if x23 = true then (some (0, 0, 0, 0, 0, 0, 0, (⟨#[]⟩ : ByteArray), (⟨#[]⟩ : ByteArray), 4)) else (if 20 ≤ x5 then (if x5 ≤ (x0.size : Int) then ((weighbridgeref04_OptsRight.f (x0.extract 20 (x5 : Int).toNat)).bind fun t340 => (if t340 = true then ((weighbridgeref05_get.f x0 0 2).bind fun t341 => ((weighbridgeref05_get.f x0 2 2).bind fun t342 => ((weighbridgeref05_get.f x0 4 4).bind fun t343 => ((weighbridgeref05_get.f x0 8 4).bind fun t344 => ((weighbridgeref05_get.f x0 12 2).bind fun t345 => ((weighbridgeref05_get.f x0 14 2).bind fun t346 => ((weighbridgeref05_get.f x0 18 2).bind fun t347 => (if 0 ≤ x5 then (some (t341, t342, (t343) % 4294967296, (t344) % 4294967296, Int.tmod t345 4096, t346, t347, x0.extract 20 (x5 : Int).toNat, x0.extract (x5 : Int).toNat x0.size, 0)) else (none))))))))) else (some (0, 0, 0, 0, 0, 0, 0, (⟨#[]⟩ : ByteArray), (⟨#[]⟩ : ByteArray), 6)))) else (none)) else (none))
def weighbridgeref05_Parse_p.f (k : Nat) (a0 : ByteArray) : Option (Int × Int × Int × Int × Int × Int × Int × ByteArray × ByteArray × Int) := if (a0.size : Int) < 20 then (some (0, 0, 0, 0, 0, 0, 0, (⟨#[]⟩ : ByteArray), (⟨#[]⟩ : ByteArray), 2)) else (if 12 < (a0.size : Int) then (if (4 * ((Int.tdiv (bt a0 12) 16) % 256)) < 20 then (weighbridgeref05_Parse_p.j0 k a0 (4 * ((Int.tdiv (bt a0 12) 16) % 256)) true) else (weighbridgeref05_Parse_p.j0 k a0 (4 * ((Int.tdiv (bt a0 12) 16) % 256)) (decide ((4 * ((Int.tdiv (bt a0 12) 16) % 256)) > (a0.size : Int))))) else (none))
theorem weighbridgeref05_Parse_p.mono_l : ∀ k, (∀ y0 y1 y2, LeO (weighbridgeref05_Parse_p.j0 k y0 y1 y2) (weighbridgeref05_Parse_p.j0 (k + 1) y0 y1 y2))
 | 0 => fun _ _ _ r h => by simp [weighbridgeref05_Parse_p.j0] at h
 | k + 1 => by
  have ih0 := weighbridgeref05_Parse_p.mono_l k
  ·intro y0 y1 y2
   unfold weighbridgeref05_Parse_p.j0
   repeat' first
   | (with_reducible exact ih0 _ _ _)
   | (with_reducible exact LeO.refl _)
   | (with_reducible exact LeO.none _)
   | (with_reducible refine LeO.ite ?_ ?_)
   | (with_reducible refine LeO.bind ?_ (fun _ => ?_))
   | exact ih0 _ _ _
   | exact LeO.none _
   | refine LeO.ite ?_ ?_
   | refine LeO.bind ?_ (fun _ => ?_)
theorem weighbridgeref05_Parse_p.mono : ∀ a0 k, LeO (weighbridgeref05_Parse_p.f k a0) (weighbridgeref05_Parse_p.f (k + 1) a0) := by
 intro a0 k
 have ih0 := weighbridgeref05_Parse_p.mono_l k
 unfold weighbridgeref05_Parse_p.f
 repeat' first
   | (with_reducible exact ih0 _ _ _)
   | (with_reducible exact LeO.refl _)
   | (with_reducible exact LeO.none _)
   | (with_reducible refine LeO.ite ?_ ?_)
   | (with_reducible refine LeO.bind ?_ (fun _ => ?_))
   | exact ih0 _ _ _
   | exact LeO.none _
   | refine LeO.ite ?_ ?_
   | refine LeO.bind ?_ (fun _ => ?_)
def weighbridgeref05_Parse_p.T9 : Bool × List (List Nat × List Nat) := (true, [([], []), ([0], [0]), ([], []), ([2, 1], [2]), ([], []), ([4, 3], [4]), ([5], [5]), ([], []), ([7, 5], [7]), ([8], [8]), ([], []), ([10, 8], [10]), ([11], [11]), ([], []), ([13, 11], [13]), ([], []), ([15, 14], [15]), ([], []), ([], []), ([17, 18], [17, 18]), ([1, 3, 6, 9, 12, 14, 16, 19], [1, 3, 6, 9, 12, 14, 16, 19]), ([], []), ([], []), ([21, 22], [21, 22]), ([20, 16, 0, 1, 2, 3, 4, 5, 6, 7, 8, 9, 10, 11, 12, 13, 14, 15, 16, 17, 18, 19, 20], [20]), ([23, 24, 0, 1, 2, 3, 4, 5, 6, 7, 8, 9, 10, 11, 12, 13, 14, 15, 16, 17, 18, 19, 20, 21, 22, 23, 24], [23]), ([25, 0, 1, 2, 3, 4, 5, 6, 7, 8, 9, 10, 11, 12, 13, 14, 15, 16, 17, 18, 19, 20, 21, 22, 23, 24, 25], [])])
def weighbridgeref05_Parse_p.B9 : List Nat := [0, 1, 0, 7, 0, 31, 63, 0, 191, 447, 0, 1471, 3519, 0, 11711, 0, 60863, 0, 0, 393216, 1048575, 0, 0, 6291456, 2097151, 33554431, 67108863]
theorem weighbridgeref05_Parse_p.tab9 : rtab .any (opsOf Tryz.f67 9) = weighbridgeref05_Parse_p.T9 := by kernel_rfl
theorem weighbridgeref05_Parse_p.bits9 : waitsOk weighbridgeref05_Parse_p.T9.2 weighbridgeref05_Parse_p.B9 = true := by kernel_rfl
set_option maxHeartbeats 8000000 in
set_option maxRecDepth 100000 in
theorem weighbridgeref05_Parse_p.calls (k : Nat) (a0 : ByteArray) (r1 : Int) (r2 : Int) (r3 : Int) (r4 : Int) (r5 : Int) (r6 : Int) (r7 : Int) (r8 : ByteArray) (r9 : ByteArray) (r10 : Int) (w : World) (h : weighbridgeref05_Parse_p.f k a0 = some (r1, r2, r3, r4, r5, r6, r7, r8, r9, r10)) :
  Calls Tryz.prog 67 #[.string a0] w fun e w' => e = .returned (.tuple #[.agg #[.int .i64 r1, .int .i64 r2, .int .u32 r3, .int .u32 r4, .int .i64 r5, .int .i64 r6, .int .i64 r7, .string r8], .string r9, .int .i64 r10]) ∧ Below w.heap.size w w' := by
 have hu80 := Tryz.underlying80
 have HB := AA (Below.refl w.heap.size w)
 have H := h
 unfold weighbridgeref05_Parse_p.f at H
 clear h
 by_cases c2 : (a0.size : Int) < 20
 ·rw [if_pos c2] at H
  have c2b0 := decide_eq_true c2
  have c2b1 : decide (a0.size < 20) = true := decide_eq_true (by omega)
  clear c2
  simp only [Option.some.injEq, Prod.mk.injEq] at H
  obtain ⟨rfl, rfl, rfl, rfl, rfl, rfl, rfl, rfl, rfl, rfl⟩ := H
  go_enter Tryz.func67, Tryz.ntmps67
  go_wp2_with (first | ((with_reducible refine gate_dst (N := 2) rfl ?_); (try (refine gate_guard (by rfl) ?_; dsimp only)); refine bx 2 80 (rr8 0 0 0 0 0 0 0 (⟨#[]⟩ : ByteArray)) ?_; intro gb339 hg w3 hbox hb; have BK339 := AA hbox; have GW339 := GS hg HB; have GE339 := GS hg HB; replace HB := BS HB hb; clear hb hbox hg; have hz4 := blk8 BK339.out))
  refine bodyPost_ret (results_ctt rfl _ _ gb339 80 #[.int .i64 0, .int .i64 0, .int .u32 0, .int .u32 0, .int .i64 0, .int .i64 0, .int .i64 0, .string (⟨#[]⟩ : ByteArray)] (0, 0) _ rfl (BE BK339) Tryz.underlying80 rfl (by kernel_rfl)) rfl ?_
  exact ⟨RT, BW HB⟩
 rw [if_neg c2] at H
 have c2b0 := decide_eq_false c2
 have c2b1 : decide (a0.size < 20) = false := decide_eq_false (by omega)
 clear c2
 replace H := IT H
 obtain ⟨c5, H⟩ := H
 have c5b0 := decide_eq_true c5
 have c5b1 : decide (12 < a0.size) = true := decide_eq_true (by omega)
 clear c5
 have HC7 := AA H
 clear H
 go_enter Tryz.func67, Tryz.ntmps67
 go_upto_region 4 with (first | ((with_reducible refine gate_dst (N := 2) rfl ?_); (try (refine gate_guard (by rfl) ?_; dsimp only)); refine bx 2 80 (rr8 0 0 0 0 0 0 0 (⟨#[]⟩ : ByteArray)) ?_; intro gb339 hg w8 hbox hb; have BK339 := AA hbox; have GW339 := GS hg HB; have GE339 := GS hg HB; replace HB := BS HB hb; clear hb hbox hg; have p6 : 0 ≤ (12 : Int) := (by omega); have q6 : 12 < a0.size := (by have : (12 : Int) < (a0.size : Int) := DA; omega); have hx6 : ∀ h : 12 < a0.size, ((a0[12]'h).toNat : Int) = bt a0 12 := bt_at a0 12; clear p6; have qi6 : (12 < (a0.size : Int)) = True := eq_true (DA); replace q6 := eq_true q6))
 (try simp only [Act.put, List.setIfInBounds_toArray, List.set_cons_zero, List.set_cons_succ])
 go_cut [23] (fun v23 wc => ∃ (kq : Nat) (x23_6 : Bool), v23 = .bool x23_6 ∧ Aside0 (weighbridgeref05_Parse_p.j0 kq a0 (4 * ((Int.tdiv (bt a0 12) 16) % 256)) x23_6 = some (r1, r2, r3, r4, r5, r6, r7, r8, r9, r10)) ∧ Aside0 (kq ≤ k) ∧ Aside0 (wc.heap[gb339]? = some (.cells (rr8 0 0 0 0 0 0 0 (⟨#[]⟩ : ByteArray)) 80 (0, 0))) ∧ Aside0 (Below w.heap.size w wc))
 case first =>
  have H := HC7.out
  clear HC7
  by_cases c9 : (4 * ((Int.tdiv (bt a0 12) 16) % 256)) < 20
  ·rw [if_pos c9] at H
   have c9b0 := decide_eq_true c9
   clear c9
   (first | rw [c9b0] | (simp only [i64_w, i32_w]; rw [c9b0]) | skip)
   have H' := AA H
   clear H
   go_wp2
   go_meet
   case rel => exact ⟨_, (true), QS, H', LR, ⟨BD BK339⟩, ⟨BW HB⟩⟩
  rw [if_neg c9] at H
  have c9b0 := decide_eq_false c9
  clear c9
  (first | rw [c9b0] | (simp only [i64_w, i32_w]; rw [c9b0]) | skip)
  have H' := AA H
  clear H
  go_wp2
  go_meet
  case rel => exact ⟨_, (decide ((4 * ((Int.tdiv (bt a0 12) 16) % 256)) > (a0.size : Int))), QS, H', LR, ⟨BD BK339⟩, ⟨BW HB⟩⟩
 case rest =>
  clear HC7
  try clear c2; try clear c2b0; try clear c2b1; try clear p2; try clear c5; try clear c5b0; try clear c5b1; try clear c6; try clear p6; try clear q6; try clear hx6; try clear qi6; try clear c9; try clear c9b0; try clear hz4; try clear p6; try clear q6
  obtain ⟨kq, x23_6, rfl, HA, HJ6, BK339, HB⟩ := hcut
  cases kq with
  | zero => exact absurd HA.out (by simp [weighbridgeref05_Parse_p.j0])
  | succ kj6 =>
   have H := HA.out
   clear HA
   simp only [weighbridgeref05_Parse_p.j0] at H
   by_cases c10 : x23_6 = true
   ·subst c10
    first | rw [if_pos rfl] at H | rw [if_pos trivial] at H
    simp only [Option.some.injEq, Prod.mk.injEq] at H
    obtain ⟨rfl, rfl, rfl, rfl, rfl, rfl, rfl, rfl, rfl, rfl⟩ := H
    have hz11 := blk8 BK339.out
    go_wp2
    refine bodyPost_ret (results_ctt rfl _ _ gb339 80 #[.int .i64 0, .int .i64 0, .int .u32 0, .int .u32 0, .int .i64 0, .int .i64 0, .int .i64 0, .string (⟨#[]⟩ : ByteArray)] (0, 0) _ rfl (BE BK339) Tryz.underlying80 rfl (by kernel_rfl)) rfl ?_
    exact ⟨RT, BW HB⟩
   replace c10 := Bool.eq_false_iff.mpr c10
   subst c10
   replace H := IFN H
   replace H := IU H
   obtain ⟨c12b0, c12b1, H⟩ := H
   replace H := IU H
   obtain ⟨c13b0, c13b1, H⟩ := H
   replace H := OB H
   obtain ⟨t340, A14, H⟩ := H
   (try set_option simprocs false in dsimp only at H)
   by_cases c15 : t340 = true
   rotate_left
   ·replace c15 := Bool.eq_false_iff.mpr c15
    subst c15
    replace H := IFN H
    simp only [Option.some.injEq, Prod.mk.injEq] at H
    obtain ⟨rfl, rfl, rfl, rfl, rfl, rfl, rfl, rfl, rfl, rfl⟩ := H
    go_wp2_with (first | ((with_reducible refine gkx 50 rfl ?_); refine gL 28 Tryz.func50 rfl (weighbridgeref04_OptsRight.calls (a0.extract 20 ((4 * ((Int.tdiv (bt a0 12) 16) % 256)) : Int).toNat) false _ A14.out) ?_; rintro w' ⟨nd, rfl⟩; (try (rw [drewN_self wc]; generalize hq_ : World.drewN wc _ = wc; have n0_ : Aside0 (wc.heap[gb339]? = some (.cells (rr8 0 0 0 0 0 0 0 (⟨#[]⟩ : ByteArray)) 80 (0, 0))) := ⟨by rw [← hq_]; exact (BD BK339)⟩; have n1_ : Aside0 (Below w.heap.size w wc) := ⟨by rw [← hq_]; exact (BW HB)⟩; clear BK339 HB hq_; have BK339 := n0_; have HB := n1_; clear n0_ n1_)); have hz37 := blk8 BK339.out))
    refine bodyPost_ret (results_ctt rfl _ _ gb339 80 #[.int .i64 0, .int .i64 0, .int .u32 0, .int .u32 0, .int .i64 0, .int .i64 0, .int .i64 0, .string (⟨#[]⟩ : ByteArray)] (0, 0) _ rfl (BE BK339) Tryz.underlying80 rfl (by kernel_rfl)) rfl ?_
    exact ⟨RT, BW HB⟩
   subst c15
   first | rw [if_pos rfl] at H | rw [if_pos trivial] at H
   replace H := OB H
   obtain ⟨t341, A16, H⟩ := H
   (try set_option simprocs false in dsimp only at H)
   replace H := OB H
   obtain ⟨t342, A17, H⟩ := H
   (try set_option simprocs false in dsimp only at H)
   replace H := OB H
   obtain ⟨t343, A18, H⟩ := H
   (try set_option simprocs false in dsimp only at H)
   replace H := OB H
   obtain ⟨t344, A19, H⟩ := H
   (try set_option simprocs false in dsimp only at H)
   replace H := OB H
   obtain ⟨t345, A20, H⟩ := H
   (try set_option simprocs false in dsimp only at H)
   replace H := OB H
   obtain ⟨t346, A21, H⟩ := H
   (try set_option simprocs false in dsimp only at H)
   replace H := OB H
   obtain ⟨t347, A22, H⟩ := H
   (try set_option simprocs false in dsimp only at H)
   have c23b0 := eq_true (DA : 20 ≤ (4 * ((Int.tdiv (bt a0 12) 16) % 256)))
   have c24b0 := eq_true (DA : (4 * ((Int.tdiv (bt a0 12) 16) % 256)) ≤ (a0.size : Int))
   obtain ⟨ji25, hji25⟩ : ∃ j_ : Int, (4 * ((Int.tdiv (bt a0 12) 16) % 256)) = j_ := ⟨_, rfl⟩
   replace H : (if 0 ≤ (ji25) then (some (t341, t342, (t343) % 4294967296, (t344) % 4294967296, Int.tmod t345 4096, t346, t347, a0.extract 20 ((ji25) : Int).toNat, a0.extract ((ji25) : Int).toNat a0.size, 0)) else (none)) = some (r1, r2, r3, r4, r5, r6, r7, r8, r9, r10) := by first | (rw [hji25] at H; exact H) | (simp only [hji25] at H ⊢; exact H)
   (try rw [hji25] at c12b0)
   (try rw [hji25] at c12b1)
   (try rw [hji25] at c13b0)
   (try rw [hji25] at c13b1)
   (try rw [hji25] at A14)
   (try rw [hji25] at A16)
   (try rw [hji25] at A17)
   (try rw [hji25] at A18)
   (try rw [hji25] at A19)
   (try rw [hji25] at A20)
   (try rw [hji25] at A21)
   (try rw [hji25] at A22)
   replace H := IU H
   obtain ⟨c26b0, c26b1, H⟩ := H
   have c27b0 := eq_true (DA : (ji25) ≤ (a0.size : Int))
   simp only [Option.some.injEq, Prod.mk.injEq] at H
   obtain ⟨rfl, rfl, rfl, rfl, rfl, rfl, rfl, rfl, rfl, rfl⟩ := H
   try go_wp2_with (first | ((with_reducible refine gkx 50 rfl ?_); refine goesL_ (some 28) rfl rfl Tryz.func50 (by kernel_rfl) rfl #[.string (a0.extract 20 ((ji25) : Int).toNat)] rfl (by (try simp only [List.map_toArray, List.map_cons, List.map_nil]); first | done | (simp only [hji25]; rfl) | rfl | (simp only [List.length_drop, List.length_take]; rfl)) ?_; (with_reducible refine (weighbridgeref04_OptsRight.calls (a0.extract 20 ((ji25) : Int).toNat) true _ A14.out).mono ?_); rintro e w' ⟨rfl, ⟨nd, rfl⟩⟩; refine ⟨_, rfl, ?_⟩; (try (rw [drewN_self wc]; generalize hq_ : World.drewN wc _ = wc; have n0_ : Aside0 (wc.heap[gb339]? = some (.cells (rr8 0 0 0 0 0 0 0 (⟨#[]⟩ : ByteArray)) 80 (0, 0))) := ⟨by rw [← hq_]; exact (BD BK339)⟩; have n1_ : Aside0 (Below w.heap.size w wc) := ⟨by rw [← hq_]; exact (BW HB)⟩; clear BK339 HB hq_; have BK339 := n0_; have HB := n1_; clear n0_ n1_))))
   replace BK339 := AA (blk_drew BK339.out)
   replace HB := AA (below_drew1 HB.out)
   refine start_ (n := 27) (S := fun w' => True) (ds := []) (bm 27 0x0) (by kernel_rfl) rfl rfl trivial (fun hHeld => ?_); refine with_tabW weighbridgeref05_Parse_p.tab9 weighbridgeref05_Parse_p.bits9 (fun HT_ HW_ => ?_)
   generalize wc.drew = w28 at BK339 HB hHeld ⊢
   refine pu 0 32 (bm 27 0x1) HT_ ?_
   refine pu 2 34 (bm 27 0x5) HT_ ?_
   refine pu 4 36 (bm 27 0x15) HT_ ?_
   refine pu 7 39 (bm 27 0x95) HT_ ?_
   refine pu 10 42 (bm 27 0x495) HT_ ?_
   refine pu 13 45 (bm 27 0x2495) HT_ ?_
   refine pu 15 47 (bm 27 0xa495) HT_ ?_
   refine pu 17 49 (bm 27 0x2a495) HT_ ?_
   refine pu 18 50 (bm 27 0x6a495) HT_ ?_
   refine pu 19 51 (bm 27 0xea495) HT_ ?_
   refine pu 21 53 (bm 27 0x2ea495) HT_ ?_
   refine pu 22 54 (bm 27 0x6ea495) HT_ ?_
   refine pu 23 55 (bm 27 0xeea495) HT_ ?_
   refine oN 1 33 (bm 27 0xeea497) HT_ (fun K hK => ?_)
   refine gR Tryz.func96 rfl rfl (weighbridgeref05_get.calls a0 0 2 t341 _ A16.out) ?_
   rintro w' ⟨nd, rfl⟩
   refine hK.out _ _ trivial (fun hHeld => ?_)
   clear hK K
   refine nm 33 ?_
   refine oN 3 35 (bm 27 0xeea49f) HT_ (fun K hK => ?_)
   refine gR Tryz.func96 rfl rfl (weighbridgeref05_get.calls a0 2 2 t342 _ A17.out) ?_
   rintro w' ⟨nd, rfl⟩
   refine hK.out _ _ trivial (fun hHeld => ?_)
   clear hK K
   refine nm 35 ?_
   refine oN 5 37 (bm 27 0xeea4bf) HT_ (fun K hK => ?_)
   refine gR Tryz.func96 rfl rfl (weighbridgeref05_get.calls a0 4 4 t343 _ A18.out) ?_
   rintro w' ⟨nd, rfl⟩
   refine hK.out _ _ trivial (fun hHeld => ?_)
   clear hK K
   refine nm 37 ?_
   refine pu 6 38 (bm 27 0xeea4ff) HT_ ?_
   refine oN 8 40 (bm 27 0xeea5ff) HT_ (fun K hK => ?_)
   refine gR Tryz.func96 rfl rfl (weighbridgeref05_get.calls a0 8 4 t344 _ A19.out) ?_
   rintro w' ⟨nd, rfl⟩
   refine hK.out _ _ trivial (fun hHeld => ?_)
   clear hK K
   refine nm 40 ?_
   refine pu 9 41 (bm 27 0xeea7ff) HT_ ?_
   refine oN 11 43 (bm 27 0xeeafff) HT_ (fun K hK => ?_)
   refine gR Tryz.func96 rfl rfl (weighbridgeref05_get.calls a0 12 2 t345 _ A20.out) ?_
   rintro w' ⟨nd, rfl⟩
   refine hK.out _ _ trivial (fun hHeld => ?_)
   clear hK K
   refine nm 43 ?_
   refine pu 12 44 (bm 27 0xeebfff) HT_ ?_
   refine oN 14 46 (bm 27 0xeeffff) HT_ (fun K hK => ?_)
   refine gR Tryz.func96 rfl rfl (weighbridgeref05_get.calls a0 14 2 t346 _ A21.out) ?_
   rintro w' ⟨nd, rfl⟩
   refine hK.out _ _ trivial (fun hHeld => ?_)
   clear hK K
   refine nm 46 ?_
   refine oN 16 48 (bm 27 0xefffff) HT_ (fun K hK => ?_)
   refine gR Tryz.func96 rfl rfl (weighbridgeref05_get.calls a0 18 2 t347 _ A22.out) ?_
   rintro w' ⟨nd, rfl⟩
   refine hK.out _ _ trivial (fun hHeld => ?_)
   clear hK K
   refine nm 48 ?_
   refine pu 20 52 (bm 27 0xffffff) HT_ ?_
   refine one_ (i := 24) (N := none) (bm 27 0x1ffffff) rfl rfl (one_of HT_.out (by kernel_rfl)) (by decide) (fun K hK => ?_)
   have hs29 : w28.cell? ⟨gb339, 0, none⟩ = some (.int .i64 0) := (blk_cell BK339.out 0).trans rfl
   have hfs29 := blk_frozen BK339.out 0
   have hs30 : w28.cell? ⟨gb339, 1, none⟩ = some (.int .i64 0) := (blk_cell BK339.out 1).trans rfl
   have hfs30 := blk_frozen BK339.out 1
   have hs31 : w28.cell? ⟨gb339, 2, none⟩ = some (.int .u32 0) := (blk_cell BK339.out 2).trans rfl
   have hfs31 := blk_frozen BK339.out 2
   have hs32 : w28.cell? ⟨gb339, 3, none⟩ = some (.int .u32 0) := (blk_cell BK339.out 3).trans rfl
   have hfs32 := blk_frozen BK339.out 3
   have hs33 : w28.cell? ⟨gb339, 4, none⟩ = some (.int .i64 0) := (blk_cell BK339.out 4).trans rfl
   have hfs33 := blk_frozen BK339.out 4
   have hs34 : w28.cell? ⟨gb339, 5, none⟩ = some (.int .i64 0) := (blk_cell BK339.out 5).trans rfl
   have hfs34 := blk_frozen BK339.out 5
   have hs35 : w28.cell? ⟨gb339, 6, none⟩ = some (.int .i64 0) := (blk_cell BK339.out 6).trans rfl
   have hfs35 := blk_frozen BK339.out 6
   have hs36 : w28.cell? ⟨gb339, 7, none⟩ = some (.string (⟨#[]⟩ : ByteArray)) := (blk_cell BK339.out 7).trans rfl
   have hfs36 := blk_frozen BK339.out 7
   refine skip_ (w1 := ?_) (by rfl) rfl ?_ ?_
   rotate_left
   ·go_simp
    rfl
   refine hK.out _ _ trivial (fun hHeld => ?_)
   clear hK K
   refine pu 25 3 (bm 27 0x3ffffff) HT_ ?_
   refine pu 26 4 (bm 27 0x7ffffff) HT_ ?_
   refine done_ (done_of HT_.out (by kernel_rfl)) ?_
   try go_wp2
   refine bodyPost_ret (results_ctt rfl _ _ gb339 80 #[.int .i64 t341, .int .i64 t342, .int .u32 ((t343) % 4294967296), .int .u32 ((t344) % 4294967296), .int .i64 (Int.tmod t345 4096), .int .i64 t346, .int .i64 t347, .string (a0.extract 20 ((ji25) : Int).toNat)] (0, 0) _ rfl (BE BK339) Tryz.underlying80 rfl (by kernel_rfl)) rfl ?_
   exact ⟨by first | rfl | (simp [errW_none, errW_some] <;> rfl) | (simp only [← hji25]; first | rfl | (simp [errW_none, errW_some] <;> rfl)) | (simp [*, errW_none, errW_some] <;> rfl), BW HB⟩

theorem r5_get (s : ByteArray) (a b : Int) (hs : s.size ≤ 140737488355328) : weighbridgeref05_get.f s a b = some (Sp.get (bl s) a b).1 := by
 unfold weighbridgeref05_get.f; rw [weighbridgeref01_Get_eq _ _ _ (by omega)]; rfl
theorem r5_small (s : List UInt8) (a b : Int) : 0 ≤ (Sp.get s a b).1 ∧ (Sp.get s a b).1 < 4294967296 := by
 unfold Sp.get
 split
 case isFalse => exact ⟨by decide, by decide⟩
 case isTrue h =>
  have hf := Sp.has_iff.1 h
  exact Sp.beNum_small _ (by rw [List.length_take]; omega)
def weighbridgeref05_Parse.f (a0 : ByteArray) : Option (Int × Int × Int × Int × Int × Int × Int × ByteArray × ByteArray × Int) := if a0.size ≤ 140737488355328 then some ((Sp.tcpParse (bl a0)).sp, (Sp.tcpParse (bl a0)).dp, (Sp.tcpParse (bl a0)).seq, (Sp.tcpParse (bl a0)).ack, (Sp.tcpParse (bl a0)).flags, (Sp.tcpParse (bl a0)).win, (Sp.tcpParse (bl a0)).urg, lb (Sp.tcpParse (bl a0)).opts, lb (Sp.tcpParse (bl a0)).body, (Sp.tcpParse (bl a0)).e) else none
theorem weighbridgeref05_Parse_eq {a0 : ByteArray} (h : a0.size ≤ 140737488355328) : weighbridgeref05_Parse.f a0 = some ((Sp.tcpParse (bl a0)).sp, (Sp.tcpParse (bl a0)).dp, (Sp.tcpParse (bl a0)).seq, (Sp.tcpParse (bl a0)).ack, (Sp.tcpParse (bl a0)).flags, (Sp.tcpParse (bl a0)).win, (Sp.tcpParse (bl a0)).urg, lb (Sp.tcpParse (bl a0)).opts, lb (Sp.tcpParse (bl a0)).body, (Sp.tcpParse (bl a0)).e) := by unfold weighbridgeref05_Parse.f; exact if_pos h
theorem r5_parse_in (s : ByteArray) (hs : s.size ≤ 140737488355328) (h20 : ¬ (bl s).length < 20) (b : Bool) (hb : b = true ↔ Sp.tcpSize (bl s) < 20 ∨ Sp.tcpSize (bl s) > (bl s).length) :
  weighbridgeref05_Parse_p.j0 1 s (Sp.tcpSize (bl s) : Int) b = some ((Sp.tcpParse (bl s)).sp, (Sp.tcpParse (bl s)).dp, (Sp.tcpParse (bl s)).seq, (Sp.tcpParse (bl s)).ack, (Sp.tcpParse (bl s)).flags, (Sp.tcpParse (bl s)).win, (Sp.tcpParse (bl s)).urg, lb (Sp.tcpParse (bl s)).opts, lb (Sp.tcpParse (bl s)).body, (Sp.tcpParse (bl s)).e) := by
 have hl := bl_length s
 rw [weighbridgeref05_Parse_p.j0]
 by_cases h2 : Sp.tcpSize (bl s) < 20 ∨ Sp.tcpSize (bl s) > (bl s).length
 ·have e : Sp.tcpParse (bl s) = Sp.tcpNone 4 := by unfold Sp.tcpParse; rw [dif_neg h20, if_pos h2]
  rw [if_pos (hb.2 h2), e]; rfl
 have hex : s.extract 20 ((Sp.tcpSize (bl s) : Int)).toNat = lb (((bl s).take (Sp.tcpSize (bl s))).drop 20) := Sp.bl_inj (by rw [bl_extract, bl_lb, Int.toNat_natCast])
 rw [if_neg (fun h => h2 (hb.1 h)), if_pos (by omega), if_pos (by omega), hex, weighbridgeref04_OptsRight_eq (by rw [lb_size, List.length_drop, List.length_take]; omega), Option.bind_some, bl_lb]
 by_cases h3 : Sp.optsOk (((bl s).take (Sp.tcpSize (bl s))).drop 20) = true
 ·have e : Sp.tcpParse (bl s) = ⟨(Sp.get (bl s) 0 2).1, (Sp.get (bl s) 2 2).1, (Sp.get (bl s) 4 4).1, (Sp.get (bl s) 8 4).1, (Sp.get (bl s) 12 2).1 % 4096, (Sp.get (bl s) 14 2).1, (Sp.get (bl s) 18 2).1, ((bl s).take (Sp.tcpSize (bl s))).drop 20, (bl s).drop (Sp.tcpSize (bl s)), 0⟩ := by
   unfold Sp.tcpParse; rw [dif_neg h20, if_neg h2, if_pos h3]
  have hb : s.extract ((Sp.tcpSize (bl s) : Int)).toNat s.size = lb ((bl s).drop (Sp.tcpSize (bl s))) := Sp.bl_inj (by rw [bl_extract, bl_lb, Int.toNat_natCast, ← hl, List.take_length])
  have g4 := r5_small (bl s) 4 4
  have g8 := r5_small (bl s) 8 4
  rw [if_pos h3, r5_get _ _ _ hs, Option.bind_some, r5_get _ _ _ hs, Option.bind_some, r5_get _ _ _ hs, Option.bind_some, r5_get _ _ _ hs, Option.bind_some, r5_get _ _ _ hs, Option.bind_some, r5_get _ _ _ hs, Option.bind_some, r5_get _ _ _ hs, Option.bind_some, if_pos (by omega), hb, Int.emod_eq_of_lt g4.1 g4.2, Int.emod_eq_of_lt g8.1 g8.2, Int.tmod_eq_emod_of_nonneg (r5_small _ _ _).1, e]
 have e : Sp.tcpParse (bl s) = Sp.tcpNone 6 := by unfold Sp.tcpParse; rw [dif_neg h20, if_neg h2, if_neg h3]
 rw [if_neg h3, e]; rfl
theorem weighbridgeref05_Parse_ev (a0 : ByteArray) (r : Int × Int × Int × Int × Int × Int × Int × ByteArray × ByteArray × Int) (h : weighbridgeref05_Parse.f a0 = some r) : ∃ k, weighbridgeref05_Parse_p.f k a0 = some r := by
 unfold weighbridgeref05_Parse.f at h
 split at h
 case isFalse => cases h
 case isTrue hs =>
  refine ⟨1, ?_⟩
  rw [← h]
  unfold weighbridgeref05_Parse_p.f
  have hl := bl_length a0
  by_cases h1 : (a0.size : Int) < 20
  ·have e : Sp.tcpParse (bl a0) = Sp.tcpNone 2 := by unfold Sp.tcpParse; rw [dif_pos (by omega)]
   rw [if_pos h1, e]; rfl
  have h12 : 12 < (bl a0).length := by omega
  have hx := ((bl a0)[12]'h12).toNat_lt
  have hb : bt a0 12 = ((((bl a0)[12]'h12).toNat : Nat) : Int) := r4_bt h12
  have e : 4 * ((Int.tdiv (bt a0 12) 16) % 256) = (Sp.tcpSize (bl a0) : Int) := by
   unfold Sp.tcpSize
   rw [dif_pos h12, hb, Int.tdiv_eq_ediv_of_nonneg (by omega)]
   omega
  rw [if_neg h1, if_pos (by omega), e]
  by_cases h2 : (Sp.tcpSize (bl a0) : Int) < 20
  ·rw [if_pos h2]
   exact r5_parse_in a0 hs (by omega) true ⟨fun _ => Or.inl (by omega), fun _ => rfl⟩
  rw [if_neg h2]
  exact r5_parse_in a0 hs (by omega) _ ⟨fun h => Or.inr (by have := of_decide_eq_true h; omega), fun h => decide_eq_true (by omega)⟩

theorem weighbridgeref05_Parse.calls (a0 : ByteArray) (r1 : Int) (r2 : Int) (r3 : Int) (r4 : Int) (r5 : Int) (r6 : Int) (r7 : Int) (r8 : ByteArray) (r9 : ByteArray) (r10 : Int) (w : World) (h : weighbridgeref05_Parse.f a0 = some (r1, r2, r3, r4, r5, r6, r7, r8, r9, r10)) :
  Calls Tryz.prog 67 #[.string a0] w fun e w' => e = .returned (.tuple #[.agg #[.int .i64 r1, .int .i64 r2, .int .u32 r3, .int .u32 r4, .int .i64 r5, .int .i64 r6, .int .i64 r7, .string r8], .string r9, .int .i64 r10]) ∧ Below w.heap.size w w' := by
 obtain ⟨k, hk⟩ := weighbridgeref05_Parse_ev a0 _ h
 exact weighbridgeref05_Parse_p.calls k a0 r1 r2 r3 r4 r5 r6 r7 r8 r9 r10 w hk

end Go.Proofs.YtfnjohklmpiboaaGreat.Pr
