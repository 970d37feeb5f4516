-- Written by a program of the session (wip/tools) out of the translation, over the kit's print; with pieces of the session's own.
import Derived.Test.YtfnjohklmpiboaaGreatPr0
import Derived.Test.YtfnjohklmpiboaaGreatPr1
import Derived.Test.YtfnjohklmpiboaaGreatPr2
namespace Go.Proofs.YtfnjohklmpiboaaGreat.Pr
open Go.RowKit Go.Proofs.YtfnjohklmpiboaaGreatW.PrintWords Go.Proofs.YtfnjohklmpiboaaGreatW.PrintLast Go.Proofs.YtfnjohklmpiboaaGreatW.PrintMore
attribute [local go_sem] max2_int min2_int max_two min_two max_three min_three max_four min_four   -- for this text's walks alone
set_option linter.unusedVariables false
set_option linter.unusedSimpArgs false
open Go.Proofs.YtfnjohklmpiboaaGreat.Sp
/-! ### weighbridgeref04_OptsRight_p: function 50 -/
def weighbridgeref04_OptsRight_p.l0 : Nat → ByteArray → Int → Option (Bool)
 | 0, _, _ => none
 | k + 1, x0, x3 => if x3 < (x0.size : Int) then (if 0 ≤ x3 then (if (bt x0 x3) = 0 then (some true) else (if (bt x0 x3) = 1 then (weighbridgeref04_OptsRight_p.l0 k x0 (wrap64 (x3 + 1))) else (if (wrap64 (x3 + 1)) ≥ (x0.size : Int) then (some false) else (if 0 ≤ (wrap64 (x3 + 1)) then (if (wrap64 (x3 + 1)) < (x0.size : Int) then (if (bt x0 (wrap64 (x3 + 1))) < 2 then (some false) else (if (wrap64 (x3 + (wrap64 (bt x0 (wrap64 (x3 + 1)))))) > (x0.size : Int) then (some false) else (weighbridgeref04_OptsRight_p.l0 k x0 (wrap64 (x3 + (wrap64 (bt x0 (wrap64 (x3 + 1))))))))) else (none)) else (none))))) else (none)) else (some true)
def weighbridgeref04_OptsRight_p.f (k : Nat) (a0 : ByteArray) : Option (Bool) := weighbridgeref04_OptsRight_p.l0 k a0 0
theorem weighbridgeref04_OptsRight_p.mono_l : ∀ k, (∀ y0 y1, LeO (weighbridgeref04_OptsRight_p.l0 k y0 y1) (weighbridgeref04_OptsRight_p.l0 (k + 1) y0 y1))
 | 0 => fun _ _ r h => by simp [weighbridgeref04_OptsRight_p.l0] at h
 | k + 1 => by
  have ih0 := weighbridgeref04_OptsRight_p.mono_l k
  ·intro y0 y1
   unfold weighbridgeref04_OptsRight_p.l0
   repeat' first
   | (with_reducible exact ih0 _ _)
   | (with_reducible exact LeO.refl _)
   | (with_reducible exact LeO.none _)
   | (with_reducible refine LeO.ite ?_ ?_)
   | (with_reducible refine LeO.bind ?_ (fun _ => ?_))
   | exact ih0 _ _
   | exact LeO.none _
   | refine LeO.ite ?_ ?_
   | refine LeO.bind ?_ (fun _ => ?_)
theorem weighbridgeref04_OptsRight_p.mono : ∀ a0 k, LeO (weighbridgeref04_OptsRight_p.f k a0) (weighbridgeref04_OptsRight_p.f (k + 1) a0) := by
 intro a0 k
 have ih0 := weighbridgeref04_OptsRight_p.mono_l k
 unfold weighbridgeref04_OptsRight_p.f
 repeat' first
   | (with_reducible exact ih0 _ _)
   | (with_reducible exact LeO.refl _)
   | (with_reducible exact LeO.none _)
   | (with_reducible refine LeO.ite ?_ ?_)
   | (with_reducible refine LeO.bind ?_ (fun _ => ?_))
   | exact ih0 _ _
   | exact LeO.none _
   | refine LeO.ite ?_ ?_
   | refine LeO.bind ?_ (fun _ => ?_)
set_option maxHeartbeats 8000000 in
set_option maxRecDepth 100000 in
theorem weighbridgeref04_OptsRight_p.calls (k : Nat) (a0 : ByteArray) (r : Bool) (w : World) (h : weighbridgeref04_OptsRight_p.f k a0 = some r) :
  Calls Tryz.prog 50 #[.string a0] w fun e w' => e = .returned (.bool r) ∧ Drawn0 w w' := by
 have H : (weighbridgeref04_OptsRight_p.l0 k a0 0) = some r := h
 clear h
 have H' := AA H
 clear H
 go_enter Tryz.func50, Tryz.ntmps50
 go_wp2
 go_loopg [3] k (fun kq v3 w' => ∃ (x3_1 : Int), v3 = .int .i64 x3_1 ∧ Aside0 (weighbridgeref04_OptsRight_p.l0 kq a0 x3_1 = some r) ∧ Aside0 (kq ≤ k) ∧ Drawn0 w w')
 case atStart => exact ⟨(0), (RS), H', ⟨Nat.le_refl _⟩, DW⟩
 case round =>
  clear H'
  obtain ⟨x3_1, rfl, HA, HK1, ⟨m1, rfl⟩⟩ := hrel
  cases gk with
  | zero => exact absurd HA.out (by simp [weighbridgeref04_OptsRight_p.l0])
  | succ k1 =>
   have H := HA.out
   clear HA
   simp only [weighbridgeref04_OptsRight_p.l0] at H
   by_cases c2 : x3_1 < (a0.size : Int)
   rotate_left
   ·rw [if_neg c2] at H
    have c2b0 := decide_eq_false c2
    clear c2
    obtain rfl := Option.some.inj H
    go_wp2
    go_ret
    exact ⟨RS, DW⟩
   rw [if_pos c2] at H
   have c2b0 := decide_eq_true c2
   clear c2
   replace H := IT H
   obtain ⟨c3, H⟩ := H
   have c3b0 := decide_eq_true c3
   clear c3
   by_cases c5 : (bt a0 x3_1) = 0
   ·rw [if_pos c5] at H
    have c5b0 := BT c5
    have c5b1 := NF c5
    clear c5
    obtain rfl := Option.some.inj H
    have p4 : 0 ≤ (x3_1 : Int) := DA
    have q4 : x3_1 < (a0.size : Int) := DA
    have hx4 := bt_at a0 x3_1
    replace p4 := eq_true p4
    replace q4 := eq_true q4
    go_wp2
    go_ret
    exact ⟨RS, DW⟩
   rw [if_neg c5] at H
   have c5b0 := BF c5
   have c5b1 := NT c5
   by_cases c6 : (bt a0 x3_1) = 1
   ·rw [if_pos c6] at H
    have c6b0 := BT c6
    have c6b1 := NF c6
    clear c6
    have H' := AA H
    clear H
    have p4 : 0 ≤ (x3_1 : Int) := DA
    have q4 : x3_1 < (a0.size : Int) := DA
    have hx4 := bt_at a0 x3_1
    replace p4 := eq_true p4
    replace q4 := eq_true q4
    go_wp2
    go_roundg k1
    case measure => have := HK1.out; omega
    case rel => exact ⟨(wrap64 (x3_1 + 1)), QS, H', ⟨by have := HK1.out; omega⟩, DW⟩
   rw [if_neg c6] at H
   have c6b0 := BF c6
   have c6b1 := NT c6
   by_cases c7 : (wrap64 (x3_1 + 1)) ≥ (a0.size : Int)
   ·rw [if_pos c7] at H
    have c7b0 : decide ((a0.size : Int) ≤ (wrap64 (x3_1 + 1))) = true := decide_eq_true c7
    clear c7
    obtain rfl := Option.some.inj H
    have p4 : 0 ≤ (x3_1 : Int) := DA
    have q4 : x3_1 < (a0.size : Int) := DA
    have hx4 := bt_at a0 x3_1
    replace p4 := eq_true p4
    replace q4 := eq_true q4
    go_wp2
    go_ret
    exact ⟨RS, DW⟩
   rw [if_neg c7] at H
   have c7b0 : decide ((a0.size : Int) ≤ (wrap64 (x3_1 + 1))) = false := decide_eq_false c7
   clear c7
   obtain ⟨ji8, hji8⟩ : ∃ j_ : Int, (wrap64 (x3_1 + 1)) = j_ := ⟨_, rfl⟩
   replace H : (if 0 ≤ (ji8) then (if (ji8) < (a0.size : Int) then (if (bt a0 (ji8)) < 2 then (some false) else (if (wrap64 (x3_1 + (wrap64 (bt a0 (ji8))))) > (a0.size : Int) then (some false) else (weighbridgeref04_OptsRight_p.l0 k1 a0 (wrap64 (x3_1 + (wrap64 (bt a0 (ji8)))))))) else (none)) else (none)) = some r := by first | (rw [hji8] at H; exact H) | (simp only [hji8] at H ⊢; exact H)
   (try rw [hji8] at c7b0)
   have hji8w : (IntKind.i64.wrap (x3_1 + 1)) = ji8 := (i64_w _).trans hji8
   replace H := IT H
   obtain ⟨c9, H⟩ := H
   have c9b0 := decide_eq_true c9
   clear c9
   replace H := IT H
   obtain ⟨c10, H⟩ := H
   have c10b0 := decide_eq_true c10
   clear c10
   by_cases c12 : (bt a0 (ji8)) < 2
   ·rw [if_pos c12] at H
    have c12b0 := decide_eq_true c12
    clear c12
    obtain rfl := Option.some.inj H
    have p4 : 0 ≤ (x3_1 : Int) := DA
    have q4 : x3_1 < (a0.size : Int) := DA
    have hx4 := bt_at a0 x3_1
    replace p4 := eq_true p4
    replace q4 := eq_true q4
    have p11 : 0 ≤ ((ji8) : Int) := DA
    have q11 : (ji8) < (a0.size : Int) := DA
    have hx11 := bt_at a0 (ji8)
    replace p11 := eq_true p11
    replace q11 := eq_true q11
    go_wp2
    go_ret
    exact ⟨by first | rfl | (simp; done) | (simp only [← hji8] <;> (first | rfl | simp)) | (simp [*]; done), DW⟩
   rw [if_neg c12] at H
   have c12b0 := decide_eq_false c12
   clear c12
   by_cases c14 : (wrap64 (x3_1 + (wrap64 (bt a0 (ji8))))) > (a0.size : Int)
   ·rw [if_pos c14] at H
    have c14b0 : decide ((a0.size : Int) < (wrap64 (x3_1 + (wrap64 (bt a0 (ji8)))))) = true := decide_eq_true c14
    clear c14
    obtain rfl := Option.some.inj H
    have p4 : 0 ≤ (x3_1 : Int) := DA
    have q4 : x3_1 < (a0.size : Int) := DA
    have hx4 := bt_at a0 x3_1
    replace p4 := eq_true p4
    replace q4 := eq_true q4
    have p11 : 0 ≤ ((ji8) : Int) := DA
    have q11 : (ji8) < (a0.size : Int) := DA
    have hx11 := bt_at a0 (ji8)
    replace p11 := eq_true p11
    replace q11 := eq_true q11
    have p13 : 0 ≤ ((ji8) : Int) := DA
    have q13 : (ji8) < (a0.size : Int) := DA
    have hx13 := bt_at a0 (ji8)
    replace p13 := eq_true p13
    replace q13 := eq_true q13
    go_wp2
    go_ret
    exact ⟨by first | rfl | (simp; done) | (simp only [← hji8] <;> (first | rfl | simp)) | (simp [*]; done), DW⟩
   rw [if_neg c14] at H
   have c14b0 : decide ((a0.size : Int) < (wrap64 (x3_1 + (wrap64 (bt a0 (ji8)))))) = false := decide_eq_false c14
   clear c14
   have H' := AA H
   clear H
   have p4 : 0 ≤ (x3_1 : Int) := DA
   have q4 : x3_1 < (a0.size : Int) := DA
   have hx4 := bt_at a0 x3_1
   replace p4 := eq_true p4
   replace q4 := eq_true q4
   have p11 : 0 ≤ ((ji8) : Int) := DA
   have q11 : (ji8) < (a0.size : Int) := DA
   have hx11 := bt_at a0 (ji8)
   replace p11 := eq_true p11
   replace q11 := eq_true q11
   have p13 : 0 ≤ ((ji8) : Int) := DA
   have q13 : (ji8) < (a0.size : Int) := DA
   have hx13 := bt_at a0 (ji8)
   replace p13 := eq_true p13
   replace q13 := eq_true q13
   have p15 : 0 ≤ ((ji8) : Int) := DA
   have q15 : (ji8) < (a0.size : Int) := DA
   have hx15 := bt_at a0 (ji8)
   replace p15 := eq_true p15
   replace q15 := eq_true q15
   go_wp2
   go_roundg k1
   case measure => have := HK1.out; omega
   case rel => exact ⟨(wrap64 (x3_1 + (wrap64 (bt a0 (ji8))))), (by first | rfl | (simp; done) | (congr 2; simp only [ByteArray.size_extract, ByteArray.size_append]; (try unfold wrap64); omega) | (simp only [ByteArray.size_extract, ByteArray.size_append, Nat.sub_zero]; done) | (congr 1; simp only [ByteArray.size_extract, ByteArray.size_append, Nat.sub_zero]; omega) | (simp only [← hji8] <;> (first | rfl | simp)) | (simp [*]; done)), H', ⟨by have := HK1.out; omega⟩, DW⟩

theorem r4_bt {s : ByteArray} {i : Nat} (h : i < (bl s).length) : bt s (i : Int) = (((bl s)[i]'h).toNat : Int) := by
 have h' : ((i : Int)).toNat < s.size := by rw [← bl_length]; omega
 unfold bt; rw [dif_pos h']; rfl
theorem r4_wrap {n : Int} (h0 : -9223372036854775808 ≤ n) (h1 : n ≤ 9223372036854775807) : wrap64 n = n := by unfold wrap64; omega
def weighbridgeref04_OptsRight.f (a0 : ByteArray) : Option Bool := if a0.size ≤ 140737488355328 then some (Sp.optsOk (bl a0)) else none
theorem weighbridgeref04_OptsRight_eq {a0 : ByteArray} (h : a0.size ≤ 140737488355328) : weighbridgeref04_OptsRight.f a0 = some (Sp.optsOk (bl a0)) := by unfold weighbridgeref04_OptsRight.f; exact if_pos h
theorem r4_opts_end (s : ByteArray) (k : Nat) : weighbridgeref04_OptsRight_p.l0 (k + 1) s (s.size : Int) = some (Sp.optsOk ((bl s).drop s.size)) := by
 rw [weighbridgeref04_OptsRight_p.l0, if_neg (by omega), List.drop_eq_nil_of_le (by rw [bl_length]; exact Nat.le_refl _)]; rfl
theorem r4_opts_loop (s : ByteArray) (hs : s.size ≤ 140737488355328) : ∀ (n i : Nat), s.size - i ≤ n → i ≤ s.size → ∀ k, n + 1 ≤ k → weighbridgeref04_OptsRight_p.l0 k s (i : Int) = some (Sp.optsOk ((bl s).drop i)) := by
 intro n
 induction n with
 | zero =>
  intro i h1 h2 k hk
  obtain ⟨k, rfl⟩ : ∃ k', k = k' + 1 := ⟨k - 1, by omega⟩
  obtain rfl : i = s.size := by omega
  exact r4_opts_end s k
 | succ n ih =>
  intro i h1 h2 k hk
  obtain ⟨k, rfl⟩ : ∃ k', k = k' + 1 := ⟨k - 1, by omega⟩
  by_cases hi : i = s.size
  ·subst hi; exact r4_opts_end s k
  have hl : i < (bl s).length := by rw [bl_length]; omega
  have hb := r4_bt hl
  have hx := ((bl s)[i]'hl).toNat_lt
  rw [weighbridgeref04_OptsRight_p.l0, if_pos (by omega), if_pos (by omega), Sp.opts_at _ _ hl]
  by_cases h0 : (bl s)[i] = 0
  ·have e : bt s (i : Int) = 0 := by rw [hb, h0]; rfl
   rw [if_pos h0, if_pos e]
  have e : bt s (i : Int) ≠ 0 := by
   rw [hb]; intro h; exact h0 (UInt8.toNat_inj.1 (by show _ = 0; omega))
  rw [if_neg h0, if_neg e]
  by_cases h3 : (bl s)[i] = 1
  ·have e1 : bt s (i : Int) = 1 := by rw [hb, h3]; rfl
   rw [if_pos h3, if_pos e1, r4_wrap (by omega) (by omega)]
   have := ih (i + 1) (by omega) (by omega) k (by omega)
   rwa [show (((i + 1 : Nat)) : Int) = (i : Int) + 1 by omega] at this
  have e1 : ¬ bt s (i : Int) = 1 := by
   rw [hb]; intro h; exact h3 (UInt8.toNat_inj.1 (by show _ = 1; omega))
  rw [if_neg h3, if_neg e1, r4_wrap (n := (i : Int) + 1) (by omega) (by omega)]
  by_cases h4 : i + 1 < (bl s).length
  rotate_left
  ·rw [bl_length] at h4
   rw [dif_neg (by rw [bl_length]; exact h4), if_pos (by omega)]
  have g : bt s ((i : Int) + 1) = (((bl s)[i + 1]'h4).toNat : Int) := by
   have := r4_bt h4
   rwa [show (((i + 1 : Nat)) : Int) = (i : Int) + 1 by omega] at this
  have hy := ((bl s)[i + 1]'h4).toNat_lt
  have h4' := h4
  rw [bl_length] at h4'
  have ih2 : ∀ y : Nat, 2 ≤ y → i + y ≤ s.size → weighbridgeref04_OptsRight_p.l0 k s ((i : Int) + (y : Int)) = some (Sp.optsOk ((bl s).drop (i + y))) := fun y y2 hy2 => by
   have := ih (i + y) (by omega) (by omega) k (by omega)
   rwa [show (((i + y : Nat)) : Int) = (i : Int) + (y : Int) by omega] at this
  have hln := bl_length s
  rw [dif_pos h4, if_neg (by omega), if_pos (by omega), if_pos (by omega), g]
  clear g ih
  revert hy
  generalize UInt8.toNat _ = y
  intro hy
  by_cases h5 : y < 2
  ·rw [if_pos (by omega), if_pos (Or.inl h5)]
  rw [if_neg (by omega), r4_wrap (n := (y : Int)) (by omega) (by omega), r4_wrap (n := (i : Int) + (y : Int)) (by omega) (by omega)]
  by_cases h6 : i + y > s.size
  ·rw [if_pos (by omega), if_pos (Or.inr (by omega))]
  rw [if_neg (by omega), if_neg (by omega)]
  exact ih2 y (by omega) (by omega)
theorem weighbridgeref04_OptsRight_ev (a0 : ByteArray) (r : Bool) (h : weighbridgeref04_OptsRight.f a0 = some r) : ∃ k, weighbridgeref04_OptsRight_p.f k a0 = some r := by
 unfold weighbridgeref04_OptsRight.f at h
 split at h
 case isFalse => cases h
 case isTrue hs =>
  refine ⟨a0.size + 1, ?_⟩
  rw [← h]
  unfold weighbridgeref04_OptsRight_p.f
  exact r4_opts_loop a0 hs a0.size 0 (by omega) (by omega) _ (by omega)
theorem weighbridgeref04_OptsRight.calls (a0 : ByteArray) (r : Bool) (w : World) (h : weighbridgeref04_OptsRight.f a0 = some r) :
  Calls Tryz.prog 50 #[.string a0] w fun e w' => e = .returned (.bool r) ∧ Drawn0 w w' := by
 obtain ⟨k, hk⟩ := weighbridgeref04_OptsRight_ev a0 _ h
 exact weighbridgeref04_OptsRight_p.calls k a0 r w hk

/-! ### weighbridgeref04_in: function 51 -/
def weighbridgeref04_in.f (a0 : Int) (a1 : Int) : Option (Bool) := if a0 ≥ 0 then (some (decide (a0 ≤ a1))) else (some false)
set_option maxHeartbeats 8000000 in
set_option maxRecDepth 100000 in
theorem weighbridgeref04_in.calls (a0 : Int) (a1 : Int) (r : Bool) (w : World) (h : weighbridgeref04_in.f a0 a1 = some r) :
  Calls Tryz.prog 51 #[.int .i64 a0, .int .i64 a1] w fun e w' => e = .returned (.bool r) ∧ Drawn0 w w' := by
 have H : (if a0 ≥ 0 then (some (decide (a0 ≤ a1))) else (some false)) = some r := h
 clear h
 by_cases c3 : a0 ≥ 0
 ·rw [if_pos c3] at H
  have c3b0 : decide (0 ≤ a0) = true := decide_eq_true c3
  clear c3
  obtain rfl := Option.some.inj H
  go_enter Tryz.func51, Tryz.ntmps51
  go_wp2
  go_ret
  exact ⟨RS, DW⟩
 rw [if_neg c3] at H
 have c3b0 : decide (0 ≤ a0) = false := decide_eq_false c3
 clear c3
 obtain rfl := Option.some.inj H
 go_enter Tryz.func51, Tryz.ntmps51
 go_wp2
 go_ret
 exact ⟨RS, DW⟩

/-! ### weighbridgeref04_Right_p: function 33 -/
def weighbridgeref04_Right_p.f (a0_0 : Int) (a0_1 : Int) (a0_2 : Int) (a0_3 : Int) (a0_4 : Int) (a0_5 : Int) (a0_6 : Int) (a0_7 : Int) (a0_8 : ByteArray) : Option (Bool) := (weighbridgeref04_OptsRight.f a0_8).bind fun t114 => ((weighbridgeref04_in.f a0_0 255).bind fun t115 => (if t115 = true then ((weighbridgeref04_in.f a0_4 255).bind fun t116 => (if t116 = true then ((weighbridgeref04_in.f a0_5 255).bind fun t117 => (if t117 = true then ((weighbridgeref04_in.f a0_1 65535).bind fun t118 => (if t118 = true then ((weighbridgeref04_in.f a0_2 7).bind fun t119 => (if t119 = true then ((weighbridgeref04_in.f a0_3 8191).bind fun t120 => (if t120 = true then (if (a0_8.size : Int) ≤ 40 then (if ((a0_8.size : Int) % 4) = 0 then (some t114) else (some false)) else (some false)) else (some false))) else (some false))) else (some false))) else (some false))) else (some false))) else (some false)))
set_option maxHeartbeats 8000000 in
set_option maxRecDepth 100000 in
theorem weighbridgeref04_Right_p.calls (a0_0 : Int) (a0_1 : Int) (a0_2 : Int) (a0_3 : Int) (a0_4 : Int) (a0_5 : Int) (a0_6 : Int) (a0_7 : Int) (a0_8 : ByteArray) (r : Bool) (w : World) (h : weighbridgeref04_Right_p.f a0_0 a0_1 a0_2 a0_3 a0_4 a0_5 a0_6 a0_7 a0_8 = some r) :
  Calls Tryz.prog 33 #[.agg #[.int .i64 a0_0, .int .i64 a0_1, .int .i64 a0_2, .int .i64 a0_3, .int .i64 a0_4, .int .i64 a0_5, .int .u32 a0_6, .int .u32 a0_7, .string a0_8]] w fun e w' => e = .returned (.bool r) ∧ Below w.heap.size w w' := by
 have hu43 := Tryz.underlying43
 have HB := AA (Below.refl w.heap.size w)
 have H := h
 unfold weighbridgeref04_Right_p.f at H
 clear h
 replace H := OB H
 obtain ⟨t114, A2, H⟩ := H
 (try set_option simprocs false in dsimp only at H)
 replace H := OB H
 obtain ⟨t115, A3, H⟩ := H
 (try set_option simprocs false in dsimp only at H)
 go_enter Tryz.func33, Tryz.ntmps33
 go_upto_region 2 with (first | ((with_reducible refine gate_dst (N := 1) rfl ?_); (try (refine gate_guard (by rfl) ?_; dsimp only)); refine bx 1 43 (rr9 a0_0 a0_1 a0_2 a0_3 a0_4 a0_5 a0_6 a0_7 a0_8) ?_; intro gb113 hg w21 hbox hb; have BK113 := AA hbox; have GW113 := GS hg HB; have GE113 := GS hg HB; replace HB := BS HB hb; clear hb hbox hg; have hz22 := blk9 BK113.out) | ((with_reducible refine gkx 50 rfl ?_); refine gL 6 Tryz.func50 rfl (weighbridgeref04_OptsRight.calls a0_8 t114 _ A2.out) ?_; rintro w' ⟨nd, rfl⟩))
 by_cases c4 : t115 = true
 rotate_left
 ·replace c4 := Bool.eq_false_iff.mpr c4
  subst c4
  replace H := IFN H
  obtain rfl := Option.some.inj H
  go_wp2_with (first | ((with_reducible refine gkx 51 rfl ?_); refine gL 9 Tryz.func51 rfl (weighbridgeref04_in.calls a0_0 255 false _ A3.out) ?_; rintro w' ⟨nd, rfl⟩))
  go_ret
  exact ⟨RT, BW HB⟩
 subst c4
 first | rw [if_pos rfl] at H | rw [if_pos trivial] at H
 replace H := OB H
 obtain ⟨t116, A5, H⟩ := H
 (try set_option simprocs false in dsimp only at H)
 by_cases c6 : t116 = true
 rotate_left
 ·replace c6 := Bool.eq_false_iff.mpr c6
  subst c6
  replace H := IFN H
  obtain rfl := Option.some.inj H
  go_wp2_with (first | ((with_reducible refine gkx 51 rfl ?_); refine gL 9 Tryz.func51 rfl (weighbridgeref04_in.calls a0_0 255 true _ A3.out) ?_; rintro w' ⟨nd, rfl⟩) | (go_at_call 51; (with_reducible refine (weighbridgeref04_in.calls a0_4 255 false _ A5.out).mono ?_); rintro e w' ⟨rfl, ⟨nd, rfl⟩⟩))
  go_ret
  exact ⟨RT, BW HB⟩
 subst c6
 first | rw [if_pos rfl] at H | rw [if_pos trivial] at H
 replace H := OB H
 obtain ⟨t117, A7, H⟩ := H
 (try set_option simprocs false in dsimp only at H)
 by_cases c8 : t117 = true
 rotate_left
 ·replace c8 := Bool.eq_false_iff.mpr c8
  subst c8
  replace H := IFN H
  obtain rfl := Option.some.inj H
  go_wp2_with (first | ((with_reducible refine gkx 51 rfl ?_); refine gL 9 Tryz.func51 rfl (weighbridgeref04_in.calls a0_0 255 true _ A3.out) ?_; rintro w' ⟨nd, rfl⟩) | (go_at_call 51; (with_reducible refine (weighbridgeref04_in.calls a0_4 255 true _ A5.out).mono ?_); rintro e w' ⟨rfl, ⟨nd, rfl⟩⟩) | (go_at_call 51; (with_reducible refine (weighbridgeref04_in.calls a0_5 255 false _ A7.out).mono ?_); rintro e w' ⟨rfl, ⟨nd, rfl⟩⟩))
  go_ret
  exact ⟨RT, BW HB⟩
 subst c8
 first | rw [if_pos rfl] at H | rw [if_pos trivial] at H
 replace H := OB H
 obtain ⟨t118, A9, H⟩ := H
 (try set_option simprocs false in dsimp only at H)
 by_cases c10 : t118 = true
 rotate_left
 ·replace c10 := Bool.eq_false_iff.mpr c10
  subst c10
  replace H := IFN H
  obtain rfl := Option.some.inj H
  go_wp2_with (first | ((with_reducible refine gkx 51 rfl ?_); refine gL 9 Tryz.func51 rfl (weighbridgeref04_in.calls a0_0 255 true _ A3.out) ?_; rintro w' ⟨nd, rfl⟩) | (go_at_call 51; (with_reducible refine (weighbridgeref04_in.calls a0_4 255 true _ A5.out).mono ?_); rintro e w' ⟨rfl, ⟨nd, rfl⟩⟩) | (go_at_call 51; (with_reducible refine (weighbridgeref04_in.calls a0_5 255 true _ A7.out).mono ?_); rintro e w' ⟨rfl, ⟨nd, rfl⟩⟩) | (go_at_call 51; (with_reducible refine (weighbridgeref04_in.calls a0_1 65535 false _ A9.out).mono ?_); rintro e w' ⟨rfl, ⟨nd, rfl⟩⟩))
  go_ret
  exact ⟨RT, BW HB⟩
 subst c10
 first | rw [if_pos rfl] at H | rw [if_pos trivial] at H
 replace H := OB H
 obtain ⟨t119, A11, H⟩ := H
 (try set_option simprocs false in dsimp only at H)
 by_cases c12 : t119 = true
 rotate_left
 ·replace c12 := Bool.eq_false_iff.mpr c12
  subst c12
  replace H := IFN H
  obtain rfl := Option.some.inj H
  go_wp2_with (first | ((with_reducible refine gkx 51 rfl ?_); refine gL 9 Tryz.func51 rfl (weighbridgeref04_in.calls a0_0 255 true _ A3.out) ?_; rintro w' ⟨nd, rfl⟩) | (go_at_call 51; (with_reducible refine (weighbridgeref04_in.calls a0_4 255 true _ A5.out).mono ?_); rintro e w' ⟨rfl, ⟨nd, rfl⟩⟩) | (go_at_call 51; (with_reducible refine (weighbridgeref04_in.calls a0_5 255 true _ A7.out).mono ?_); rintro e w' ⟨rfl, ⟨nd, rfl⟩⟩) | (go_at_call 51; (with_reducible refine (weighbridgeref04_in.calls a0_1 65535 true _ A9.out).mono ?_); rintro e w' ⟨rfl, ⟨nd, rfl⟩⟩) | (go_at_call 51; (with_reducible refine (weighbridgeref04_in.calls a0_2 7 false _ A11.out).mono ?_); rintro e w' ⟨rfl, ⟨nd, rfl⟩⟩))
  go_ret
  exact ⟨RT, BW HB⟩
 subst c12
 first | rw [if_pos rfl] at H | rw [if_pos trivial] at H
 replace H := OB H
 obtain ⟨t120, A13, H⟩ := H
 (try set_option simprocs false in dsimp only at H)
 by_cases c14 : t120 = true
 rotate_left
 ·replace c14 := Bool.eq_false_iff.mpr c14
  subst c14
  replace H := IFN H
  obtain rfl := Option.some.inj H
  go_wp2_with (first | ((with_reducible refine gkx 51 rfl ?_); refine gL 9 Tryz.func51 rfl (weighbridgeref04_in.calls a0_0 255 true _ A3.out) ?_; rintro w' ⟨nd, rfl⟩) | (go_at_call 51; (with_reducible refine (weighbridgeref04_in.calls a0_4 255 true _ A5.out).mono ?_); rintro e w' ⟨rfl, ⟨nd, rfl⟩⟩) | (go_at_call 51; (with_reducible refine (weighbridgeref04_in.calls a0_5 255 true _ A7.out).mono ?_); rintro e w' ⟨rfl, ⟨nd, rfl⟩⟩) | (go_at_call 51; (with_reducible refine (weighbridgeref04_in.calls a0_1 65535 true _ A9.out).mono ?_); rintro e w' ⟨rfl, ⟨nd, rfl⟩⟩) | (go_at_call 51; (with_reducible refine (weighbridgeref04_in.calls a0_2 7 true _ A11.out).mono ?_); rintro e w' ⟨rfl, ⟨nd, rfl⟩⟩) | (go_at_call 51; (with_reducible refine (weighbridgeref04_in.calls a0_3 8191 false _ A13.out).mono ?_); rintro e w' ⟨rfl, ⟨nd, rfl⟩⟩))
  go_ret
  exact ⟨RT, BW HB⟩
 subst c14
 first | rw [if_pos rfl] at H | rw [if_pos trivial] at H
 by_cases c15 : (a0_8.size : Int) ≤ 40
 ·rw [if_pos c15] at H
  have c15b0 := decide_eq_true c15
  have c15b1 : decide (a0_8.size ≤ 40) = true := decide_eq_true (by omega)
  clear c15
  by_cases c16 : ((a0_8.size : Int) % 4) = 0
  ·rw [if_pos c16] at H
   have c16b0 := BT c16
   have c16b1 := NF c16
   clear c16
   obtain rfl := Option.some.inj H
   go_wp2_with (first | ((with_reducible refine gkx 51 rfl ?_); refine gL 9 Tryz.func51 rfl (weighbridgeref04_in.calls a0_0 255 true _ A3.out) ?_; rintro w' ⟨nd, rfl⟩) | (go_at_call 51; (with_reducible refine (weighbridgeref04_in.calls a0_4 255 true _ A5.out).mono ?_); rintro e w' ⟨rfl, ⟨nd, rfl⟩⟩) | (go_at_call 51; (with_reducible refine (weighbridgeref04_in.calls a0_5 255 true _ A7.out).mono ?_); rintro e w' ⟨rfl, ⟨nd, rfl⟩⟩) | (go_at_call 51; (with_reducible refine (weighbridgeref04_in.calls a0_1 65535 true _ A9.out).mono ?_); rintro e w' ⟨rfl, ⟨nd, rfl⟩⟩) | (go_at_call 51; (with_reducible refine (weighbridgeref04_in.calls a0_2 7 true _ A11.out).mono ?_); rintro e w' ⟨rfl, ⟨nd, rfl⟩⟩) | (go_at_call 51; (with_reducible refine (weighbridgeref04_in.calls a0_3 8191 true _ A13.out).mono ?_); rintro e w' ⟨rfl, ⟨nd, rfl⟩⟩))
   go_ret
   exact ⟨RT, BW HB⟩
  rw [if_neg c16] at H
  have c16b0 := BF c16
  have c16b1 := NT c16
  obtain rfl := Option.some.inj H
  go_wp2_with (first | ((with_reducible refine gkx 51 rfl ?_); refine gL 9 Tryz.func51 rfl (weighbridgeref04_in.calls a0_0 255 true _ A3.out) ?_; rintro w' ⟨nd, rfl⟩) | (go_at_call 51; (with_reducible refine (weighbridgeref04_in.calls a0_4 255 true _ A5.out).mono ?_); rintro e w' ⟨rfl, ⟨nd, rfl⟩⟩) | (go_at_call 51; (with_reducible refine (weighbridgeref04_in.calls a0_5 255 true _ A7.out).mono ?_); rintro e w' ⟨rfl, ⟨nd, rfl⟩⟩) | (go_at_call 51; (with_reducible refine (weighbridgeref04_in.calls a0_1 65535 true _ A9.out).mono ?_); rintro e w' ⟨rfl, ⟨nd, rfl⟩⟩) | (go_at_call 51; (with_reducible refine (weighbridgeref04_in.calls a0_2 7 true _ A11.out).mono ?_); rintro e w' ⟨rfl, ⟨nd, rfl⟩⟩) | (go_at_call 51; (with_reducible refine (weighbridgeref04_in.calls a0_3 8191 true _ A13.out).mono ?_); rintro e w' ⟨rfl, ⟨nd, rfl⟩⟩))
  go_ret
  exact ⟨RT, BW HB⟩
 rw [if_neg c15] at H
 have c15b0 := decide_eq_false c15
 have c15b1 : decide (a0_8.size ≤ 40) = false := decide_eq_false (by omega)
 clear c15
 obtain rfl := Option.some.inj H
 go_wp2_with (first | ((with_reducible refine gkx 51 rfl ?_); refine gL 9 Tryz.func51 rfl (weighbridgeref04_in.calls a0_0 255 true _ A3.out) ?_; rintro w' ⟨nd, rfl⟩) | (go_at_call 51; (with_reducible refine (weighbridgeref04_in.calls a0_4 255 true _ A5.out).mono ?_); rintro e w' ⟨rfl, ⟨nd, rfl⟩⟩) | (go_at_call 51; (with_reducible refine (weighbridgeref04_in.calls a0_5 255 true _ A7.out).mono ?_); rintro e w' ⟨rfl, ⟨nd, rfl⟩⟩) | (go_at_call 51; (with_reducible refine (weighbridgeref04_in.calls a0_1 65535 true _ A9.out).mono ?_); rintro e w' ⟨rfl, ⟨nd, rfl⟩⟩) | (go_at_call 51; (with_reducible refine (weighbridgeref04_in.calls a0_2 7 true _ A11.out).mono ?_); rintro e w' ⟨rfl, ⟨nd, rfl⟩⟩) | (go_at_call 51; (with_reducible refine (weighbridgeref04_in.calls a0_3 8191 true _ A13.out).mono ?_); rintro e w' ⟨rfl, ⟨nd, rfl⟩⟩))
 go_ret
 exact ⟨RT, BW HB⟩

theorem r4_in (a b : Int) : weighbridgeref04_in.f a b = some (decide (0 ≤ a ∧ a ≤ b)) := by
 unfold weighbridgeref04_in.f
 by_cases h : a ≥ 0
 ·rw [if_pos h]
  by_cases h2 : a ≤ b
  ·rw [decide_eq_true h2, decide_eq_true (show 0 ≤ a ∧ a ≤ b from ⟨h, h2⟩)]
  rw [decide_eq_false h2, decide_eq_false (fun g => h2 g.2)]
 rw [if_neg h, decide_eq_false (fun g => h g.1)]
def weighbridgeref04_Right.f (a0_0 a0_1 a0_2 a0_3 a0_4 a0_5 a0_6 a0_7 : Int) (a0_8 : ByteArray) : Option Bool := if a0_8.size ≤ 140737488355328 then some (Sp.ip4Right a0_0 a0_1 a0_2 a0_3 a0_4 a0_5 (bl a0_8)) else none
theorem weighbridgeref04_Right_eq {a0_0 a0_1 a0_2 a0_3 a0_4 a0_5 a0_6 a0_7 : Int} {a0_8 : ByteArray} (h : a0_8.size ≤ 140737488355328) : weighbridgeref04_Right.f a0_0 a0_1 a0_2 a0_3 a0_4 a0_5 a0_6 a0_7 a0_8 = some (Sp.ip4Right a0_0 a0_1 a0_2 a0_3 a0_4 a0_5 (bl a0_8)) := by unfold weighbridgeref04_Right.f; exact if_pos h
theorem r4_gate (p : Prop) [Decidable p] {t : Option Bool} {x : Bool} (ht : p → t = some x) : (if (decide p) = true then t else some false) = some (decide p && x) := by
 by_cases h : p
 ·rw [decide_eq_true h, if_pos rfl, ht h]; rfl
 ·rw [decide_eq_false h, if_neg (by decide)]; rfl
theorem weighbridgeref04_Right_ev (a0_0 a0_1 a0_2 a0_3 a0_4 a0_5 a0_6 a0_7 : Int) (a0_8 : ByteArray) (r : Bool) (h : weighbridgeref04_Right.f a0_0 a0_1 a0_2 a0_3 a0_4 a0_5 a0_6 a0_7 a0_8 = some r) : weighbridgeref04_Right_p.f a0_0 a0_1 a0_2 a0_3 a0_4 a0_5 a0_6 a0_7 a0_8 = some r := by
 unfold weighbridgeref04_Right.f at h
 split at h
 case isFalse => cases h
 case isTrue hs =>
  rw [← h]
  unfold weighbridgeref04_Right_p.f
  rw [weighbridgeref04_OptsRight_eq hs, Option.bind_some]
  simp only [r4_in, Option.bind_some]
  have hl := bl_length a0_8
  have hend : (if (a0_8.size : Int) ≤ 40 then (if ((a0_8.size : Int) % 4) = 0 then some (Sp.optsOk (bl a0_8)) else some false) else some false) = some (decide ((bl a0_8).length ≤ 40 ∧ (bl a0_8).length % 4 = 0) && Sp.optsOk (bl a0_8)) := by
   by_cases h1 : (a0_8.size : Int) ≤ 40
   ·rw [if_pos h1]
    by_cases h2 : ((a0_8.size : Int) % 4) = 0
    ·rw [if_pos h2, decide_eq_true (show (bl a0_8).length ≤ 40 ∧ (bl a0_8).length % 4 = 0 by omega)]; rfl
    ·rw [if_neg h2, decide_eq_false (show ¬ ((bl a0_8).length ≤ 40 ∧ (bl a0_8).length % 4 = 0) by omega)]; rfl
   ·rw [if_neg h1, decide_eq_false (show ¬ ((bl a0_8).length ≤ 40 ∧ (bl a0_8).length % 4 = 0) by omega)]; rfl
  rw [r4_gate _ (fun _ => r4_gate _ (fun _ => r4_gate _ (fun _ => r4_gate _ (fun _ => r4_gate _ (fun _ => r4_gate _ (fun _ => hend))))))]
  unfold Sp.ip4Right
  congr 1
  simp only [Bool.and_assoc]
  generalize decide (0 ≤ a0_0 ∧ a0_0 ≤ 255) = b0
  generalize decide (0 ≤ a0_1 ∧ a0_1 ≤ 65535) = b1
  generalize decide (0 ≤ a0_2 ∧ a0_2 ≤ 7) = b2
  generalize decide (0 ≤ a0_3 ∧ a0_3 ≤ 8191) = b3
  generalize decide (0 ≤ a0_4 ∧ a0_4 ≤ 255) = b4
  generalize decide (0 ≤ a0_5 ∧ a0_5 ≤ 255) = b5
  cases b0 <;> cases b1 <;> cases b2 <;> cases b3 <;> cases b4 <;> cases b5 <;> rfl
theorem weighbridgeref04_Right.calls (a0_0 : Int) (a0_1 : Int) (a0_2 : Int) (a0_3 : Int) (a0_4 : Int) (a0_5 : Int) (a0_6 : Int) (a0_7 : Int) (a0_8 : ByteArray) (r : Bool) (w : World) (h : weighbridgeref04_Right.f a0_0 a0_1 a0_2 a0_3 a0_4 a0_5 a0_6 a0_7 a0_8 = some r) :
  Calls Tryz.prog 33 #[.agg #[.int .i64 a0_0, .int .i64 a0_1, .int .i64 a0_2, .int .i64 a0_3, .int .i64 a0_4, .int .i64 a0_5, .int .u32 a0_6, .int .u32 a0_7, .string a0_8]] w fun e w' => e = .returned (.bool r) ∧ Below w.heap.size w w' := by
 have hk := weighbridgeref04_Right_ev a0_0 a0_1 a0_2 a0_3 a0_4 a0_5 a0_6 a0_7 a0_8 _ h
 exact weighbridgeref04_Right_p.calls a0_0 a0_1 a0_2 a0_3 a0_4 a0_5 a0_6 a0_7 a0_8 r w hk

/-! ### weighbridgeref04_Num_p: function 34 -/
def weighbridgeref04_Num_p.f (a0 : Int) (a1 : Int) : Option (ByteArray) := (weighbridgeref01_Put.f a0 a1).bind fun bt124 => (some bt124.1)
set_option maxHeartbeats 8000000 in
set_option maxRecDepth 100000 in
theorem weighbridgeref04_Num_p.calls (a0 : Int) (a1 : Int) (r : ByteArray) (w : World) (h : weighbridgeref04_Num_p.f a0 a1 = some r) :
  Calls Tryz.prog 34 #[.int .i64 a0, .int .i64 a1] w fun e w' => e = .returned (.string r) ∧ Below w.heap.size w w' := by
 have HB := AA (Below.refl w.heap.size w)
 have H : ((weighbridgeref01_Put.f a0 a1).bind fun bt124 => (some bt124.1)) = some r := h
 clear h
 replace H := OB H
 obtain ⟨⟨t124, t125⟩, A3, H⟩ := H
 (try set_option simprocs false in dsimp only at H)
 obtain rfl := Option.some.inj H
 go_enter Tryz.func34, Tryz.ntmps34
 go_wp2_with (first | ((with_reducible refine gkx 52 rfl ?_); refine gL 10 Tryz.func52 rfl (weighbridgeref01_Put.calls a0 a1 t124 t125 _ A3.out) ?_; rintro w4 hb; (try clear A3); replace HB := BS HB hb; (try clear hb)))
 go_ret
 exact ⟨RT, BW HB⟩

def i64b (n : Int) : Bool := decide (-9223372036854775808 ≤ n ∧ n ≤ 9223372036854775807)
def weighbridgeref04_Num.f (a0 a1 : Int) : Option ByteArray := if i64b a1 = true then some (lb (Sp.put a0 a1).1) else none
theorem weighbridgeref04_Num_eq {a0 a1 : Int} (h0 : -9223372036854775808 ≤ a1) (h1 : a1 ≤ 9223372036854775807) : weighbridgeref04_Num.f a0 a1 = some (lb (Sp.put a0 a1).1) := by
 unfold weighbridgeref04_Num.f; exact if_pos (decide_eq_true ⟨h0, h1⟩)
theorem weighbridgeref04_Num_yes {a0 a1 : Int} (h : Sp.fits a0 a1 = true) : weighbridgeref04_Num.f a0 a1 = some (lb (Sp.beBytes a0.toNat a1)) := by
 have hf := Sp.fits_iff.1 h
 have hp : (256 : Int) ^ a0.toNat ≤ 4294967296 := by
  rcases (by omega : a0.toNat = 1 ∨ a0.toNat = 2 ∨ a0.toNat = 3 ∨ a0.toNat = 4) with e | e | e | e <;> rw [e] <;> decide
 rw [weighbridgeref04_Num_eq (by omega) (by omega), Sp.put_yes h]
theorem weighbridgeref04_Num_ev (a0 a1 : Int) (r : ByteArray) (h : weighbridgeref04_Num.f a0 a1 = some r) : weighbridgeref04_Num_p.f a0 a1 = some r := by
 unfold weighbridgeref04_Num.f at h
 split at h
 case isFalse => cases h
 case isTrue hs =>
  have hs := of_decide_eq_true hs
  unfold weighbridgeref04_Num_p.f
  rw [weighbridgeref01_Put_eq _ _ hs.1 hs.2, Option.bind_some]
  exact h
theorem weighbridgeref04_Num.calls (a0 : Int) (a1 : Int) (r : ByteArray) (w : World) (h : weighbridgeref04_Num.f a0 a1 = some r) :
  Calls Tryz.prog 34 #[.int .i64 a0, .int .i64 a1] w fun e w' => e = .returned (.string r) ∧ Below w.heap.size w w' := by
 have hk := weighbridgeref04_Num_ev a0 a1 _ h
 exact weighbridgeref04_Num_p.calls a0 a1 r w hk

/-! ### weighbridgeref04_Build_p: function 11 -/
def weighbridgeref04_Build_p.f (a0_0 : Int) (a0_1 : Int) (a0_2 : Int) (a0_3 : Int) (a0_4 : Int) (a0_5 : Int) (a0_6 : Int) (a0_7 : Int) (a0_8 : ByteArray) (a1 : ByteArray) : Option (ByteArray × Int) := (weighbridgeref04_Right.f a0_0 a0_1 a0_2 a0_3 a0_4 a0_5 a0_6 a0_7 a0_8).bind fun t127 => (if t127 = true then (if (wrap64 ((wrap64 (20 + (a0_8.size : Int))) + (a1.size : Int))) > 1500 then (some ((⟨#[]⟩ : ByteArray), 18)) else ((weighbridgeref04_Num.f 1 (wrap64 (64 + (wrap64 (Int.tdiv (wrap64 (20 + (a0_8.size : Int))) 4))))).bind fun t128 => ((weighbridgeref04_Num.f 1 a0_0).bind fun t129 => (if t128.size + t129.size ≤ 9223372036854775807 then ((weighbridgeref04_Num.f 2 (wrap64 ((wrap64 (20 + (a0_8.size : Int))) + (a1.size : Int)))).bind fun t130 => (if (t128 ++ t129).size + t130.size ≤ 9223372036854775807 then ((weighbridgeref04_Num.f 2 a0_1).bind fun t131 => (if ((t128 ++ t129) ++ t130).size + t131.size ≤ 9223372036854775807 then ((weighbridgeref04_Num.f 2 (wrap64 ((wrap64 (a0_2 * 8192)) + a0_3))).bind fun t132 => (if (((t128 ++ t129) ++ t130) ++ t131).size + t132.size ≤ 9223372036854775807 then ((weighbridgeref04_Num.f 1 a0_4).bind fun t133 => (if ((((t128 ++ t129) ++ t130) ++ t131) ++ t132).size + t133.size ≤ 9223372036854775807 then ((weighbridgeref04_Num.f 1 a0_5).bind fun t134 => (if (((((t128 ++ t129) ++ t130) ++ t131) ++ t132) ++ t133).size + t134.size ≤ 9223372036854775807 then ((weighbridgeref04_Num.f 4 (wrap64 (a0_6))).bind fun t135 => ((weighbridgeref04_Num.f 4 (wrap64 (a0_7))).bind fun t136 => (if t135.size + t136.size ≤ 9223372036854775807 then (if (t135 ++ t136).size + a0_8.size ≤ 9223372036854775807 then (if ((((((t128 ++ t129) ++ t130) ++ t131) ++ t132) ++ t133) ++ t134).size + 2 ≤ 9223372036854775807 then (if (((((((t128 ++ t129) ++ t130) ++ t131) ++ t132) ++ t133) ++ t134) ++ (⟨#[0, 0]⟩ : ByteArray)).size + ((t135 ++ t136) ++ a0_8).size ≤ 9223372036854775807 then ((weighbridgeref03_Check.f ((((((((t128 ++ t129) ++ t130) ++ t131) ++ t132) ++ t133) ++ t134) ++ (⟨#[0, 0]⟩ : ByteArray)) ++ ((t135 ++ t136) ++ a0_8))).bind fun t137 => ((weighbridgeref04_Num.f 2 (wrap64 (t137))).bind fun t138 => (if ((((((t128 ++ t129) ++ t130) ++ t131) ++ t132) ++ t133) ++ t134).size + t138.size ≤ 9223372036854775807 then (if (((((((t128 ++ t129) ++ t130) ++ t131) ++ t132) ++ t133) ++ t134) ++ t138).size + ((t135 ++ t136) ++ a0_8).size ≤ 9223372036854775807 then (if ((((((((t128 ++ t129) ++ t130) ++ t131) ++ t132) ++ t133) ++ t134) ++ t138) ++ ((t135 ++ t136) ++ a0_8)).size + a1.size ≤ 9223372036854775807 then (some (((((((((t128 ++ t129) ++ t130) ++ t131) ++ t132) ++ t133) ++ t134) ++ t138) ++ ((t135 ++ t136) ++ a0_8)) ++ a1, 0)) else (none)) else (none)) else (none)))) else (none)) else (none)) else (none)) else (none)))) else (none))) else (none))) else (none))) else (none))) else (none))) else (none))))) else (some ((⟨#[]⟩ : ByteArray), 1)))
def weighbridgeref04_Build_p.T7 : Bool × List (List Nat × List Nat) := (true, [([], []), ([0], [0]), ([1], [1]), ([2], [2]), ([], []), ([4], [4]), ([5, 3], [5]), ([3, 6], [3, 6]), ([], []), ([], []), ([9], [9]), ([8, 10], [8, 10]), ([11, 6], [11]), ([7, 12], [7, 12]), ([], []), ([14], [14]), ([15, 12], [15]), ([13, 16], [13, 16]), ([], []), ([18], [18]), ([19], [19]), ([], []), ([21], [21]), ([20, 22], [20, 22]), ([23, 16], [23]), ([17, 24], [17, 24]), ([], []), ([26], [26]), ([27, 24], [27]), ([25, 28], [25, 28]), ([], []), ([30], [30]), ([31, 28], [31]), ([29, 32], [29, 32]), ([33, 32, 0, 1, 2, 3, 4, 5, 6, 7, 8, 9, 10, 11, 12, 13, 14, 15, 16, 17, 18, 19, 20, 21, 22, 23, 24, 25, 26, 27, 28, 29, 30, 31, 32, 33], [33])])
def weighbridgeref04_Build_p.B7 : List Nat := [0, 1, 3, 7, 0, 16, 63, 127, 0, 0, 512, 1792, 3967, 8191, 0, 16384, 57215, 131071, 0, 262144, 786432, 0, 2097152, 8126464, 16637823, 33554431, 0, 67108864, 234741631, 536870911, 0, 1073741824, 3724402559, 8589934591, 17179869183]
theorem weighbridgeref04_Build_p.tab7 : rtab .any (opsOf Tryz.f11 7) = weighbridgeref04_Build_p.T7 := by kernel_rfl
theorem weighbridgeref04_Build_p.bits7 : waitsOk weighbridgeref04_Build_p.T7.2 weighbridgeref04_Build_p.B7 = true := by kernel_rfl
def weighbridgeref04_Build_p.T8 : Bool × List (List Nat × List Nat) := (true, [([], []), ([0], [0]), ([1], [1]), ([2], [2]), ([], []), ([4], [4]), ([5], [5]), ([6, 3], [6]), ([3, 7], [3, 7]), ([], []), ([9], [9]), ([8, 10], [8, 10]), ([11, 7, 0, 1, 2, 3, 4, 5, 6, 7, 8, 9, 10, 11], [11])])
def weighbridgeref04_Build_p.B8 : List Nat := [0, 1, 3, 7, 0, 16, 48, 127, 255, 0, 512, 2047, 4095]
theorem weighbridgeref04_Build_p.tab8 : rtab .any (opsOf Tryz.f11 8) = weighbridgeref04_Build_p.T8 := by kernel_rfl
theorem weighbridgeref04_Build_p.bits8 : waitsOk weighbridgeref04_Build_p.T8.2 weighbridgeref04_Build_p.B8 = true := by kernel_rfl
set_option maxHeartbeats 8000000 in
set_option maxRecDepth 100000 in
theorem weighbridgeref04_Build_p.calls (a0_0 : Int) (a0_1 : Int) (a0_2 : Int) (a0_3 : Int) (a0_4 : Int) (a0_5 : Int) (a0_6 : Int) (a0_7 : Int) (a0_8 : ByteArray) (a1 : ByteArray) (r1 : ByteArray) (r2 : Int) (w : World) (h : weighbridgeref04_Build_p.f a0_0 a0_1 a0_2 a0_3 a0_4 a0_5 a0_6 a0_7 a0_8 a1 = some (r1, r2)) :
  Calls Tryz.prog 11 #[.agg #[.int .i64 a0_0, .int .i64 a0_1, .int .i64 a0_2, .int .i64 a0_3, .int .i64 a0_4, .int .i64 a0_5, .int .u32 a0_6, .int .u32 a0_7, .string a0_8], .string a1] w fun e w' => e = .returned (.tuple #[.string r1, .int .i64 r2]) ∧ Below w.heap.size w w' := by
 have hu43 := Tryz.underlying43
 have HB := AA (Below.refl w.heap.size w)
 have H := h
 unfold weighbridgeref04_Build_p.f at H
 clear h
 replace H := OB H
 obtain ⟨t127, A3, H⟩ := H
 (try set_option simprocs false in dsimp only at H)
 go_enter Tryz.func11, Tryz.ntmps11
 go_upto_if 18 with (first | ((with_reducible refine gate_dst (N := 2) rfl ?_); refine bx 2 43 (rr9 a0_0 a0_1 a0_2 a0_3 a0_4 a0_5 a0_6 a0_7 a0_8) ?_; intro gb126 hg w34 hbox hb; have BK126 := AA hbox; have GW126 := GS hg HB; have GE126 := GS hg HB; replace HB := BS HB hb; clear hb hbox hg; have hz35 := blk9 BK126.out) | ((with_reducible refine gkx 33 rfl ?_); refine gL 12 Tryz.func33 rfl (weighbridgeref04_Right.calls a0_0 a0_1 a0_2 a0_3 a0_4 a0_5 a0_6 a0_7 a0_8 _ _ A3.out) ?_; rintro w36 hb; (try clear A3); replace BK126 := BB BK126 hb; replace HB := BS HB hb; (try clear hb); have hz37 := blk9 BK126.out))
 by_cases c4 : t127 = true
 rotate_left
 ·replace c4 := Bool.eq_false_iff.mpr c4
  subst c4
  replace H := IFN H
  simp only [Option.some.injEq, Prod.mk.injEq] at H
  obtain ⟨rfl, rfl⟩ := H
  go_wp2_with (fail)
  go_ret2
  exact ⟨RT, BW HB⟩
 subst c4
 first | rw [if_pos rfl] at H | rw [if_pos trivial] at H
 by_cases c5 : (wrap64 ((wrap64 (20 + (a0_8.size : Int))) + (a1.size : Int))) > 1500
 ·rw [if_pos c5] at H
  have c5b0 : decide (1500 < (wrap64 ((wrap64 (20 + (a0_8.size : Int))) + (a1.size : Int)))) = true := decide_eq_true c5
  clear c5
  simp only [Option.some.injEq, Prod.mk.injEq] at H
  obtain ⟨rfl, rfl⟩ := H
  go_wp2_with (fail)
  go_ret2
  exact ⟨RT, BW HB⟩
 rw [if_neg c5] at H
 have c5b0 : decide (1500 < (wrap64 ((wrap64 (20 + (a0_8.size : Int))) + (a1.size : Int)))) = false := decide_eq_false c5
 clear c5
 replace H := OB H
 obtain ⟨t128, A10, H⟩ := H
 (try set_option simprocs false in dsimp only at H)
 replace H := OB H
 obtain ⟨t129, A11, H⟩ := H
 (try set_option simprocs false in dsimp only at H)
 replace H := IT H
 obtain ⟨c12, H⟩ := H
 have c12b0 := eq_true c12
 have c12b1 := decide_eq_true c12
 try have c12b2 := eq_false (Nat.not_lt.2 c12)
 replace H := OB H
 obtain ⟨t130, A13, H⟩ := H
 (try set_option simprocs false in dsimp only at H)
 replace H := IT H
 obtain ⟨c14, H⟩ := H
 have c14b0 := eq_true c14
 have c14b1 := decide_eq_true c14
 try have c14b2 := eq_false (Nat.not_lt.2 c14)
 (try (have c14r := c14; simp only [ByteArray.size_append, ByteArray.size_extract, Nat.sub_zero, Nat.min_self] at c14r; have c14rt := eq_true c14r; have c14ru := eq_false (Nat.not_lt.mpr c14r); clear c14r))
 (try (have c14s := c14; simp [c12b0] at c14s; have c14t := eq_true c14s; have c14u := eq_false (Nat.not_lt.mpr c14s); clear c14s))
 replace H := OB H
 obtain ⟨t131, A15, H⟩ := H
 (try set_option simprocs false in dsimp only at H)
 replace H := IT H
 obtain ⟨c16, H⟩ := H
 have c16b0 := eq_true c16
 have c16b1 := decide_eq_true c16
 try have c16b2 := eq_false (Nat.not_lt.2 c16)
 (try (have c16r := c16; simp only [ByteArray.size_append, ByteArray.size_extract, Nat.sub_zero, Nat.min_self] at c16r; have c16rt := eq_true c16r; have c16ru := eq_false (Nat.not_lt.mpr c16r); clear c16r))
 (try (have c16s := c16; simp [c12b0, c14b0] at c16s; have c16t := eq_true c16s; have c16u := eq_false (Nat.not_lt.mpr c16s); clear c16s))
 replace H := OB H
 obtain ⟨t132, A17, H⟩ := H
 (try set_option simprocs false in dsimp only at H)
 replace H := IT H
 obtain ⟨c18, H⟩ := H
 have c18b0 := eq_true c18
 have c18b1 := decide_eq_true c18
 try have c18b2 := eq_false (Nat.not_lt.2 c18)
 (try (have c18r := c18; simp only [ByteArray.size_append, ByteArray.size_extract, Nat.sub_zero, Nat.min_self] at c18r; have c18rt := eq_true c18r; have c18ru := eq_false (Nat.not_lt.mpr c18r); clear c18r))
 (try (have c18s := c18; simp [c12b0, c14b0, c16b0] at c18s; have c18t := eq_true c18s; have c18u := eq_false (Nat.not_lt.mpr c18s); clear c18s))
 replace H := OB H
 obtain ⟨t133, A19, H⟩ := H
 (try set_option simprocs false in dsimp only at H)
 replace H := IT H
 obtain ⟨c20, H⟩ := H
 have c20b0 := eq_true c20
 have c20b1 := decide_eq_true c20
 try have c20b2 := eq_false (Nat.not_lt.2 c20)
 (try (have c20r := c20; simp only [ByteArray.size_append, ByteArray.size_extract, Nat.sub_zero, Nat.min_self] at c20r; have c20rt := eq_true c20r; have c20ru := eq_false (Nat.not_lt.mpr c20r); clear c20r))
 (try (have c20s := c20; simp [c12b0, c14b0, c16b0, c18b0] at c20s; have c20t := eq_true c20s; have c20u := eq_false (Nat.not_lt.mpr c20s); clear c20s))
 replace H := OB H
 obtain ⟨t134, A21, H⟩ := H
 (try set_option simprocs false in dsimp only at H)
 replace H := IT H
 obtain ⟨c22, H⟩ := H
 have c22b0 := eq_true c22
 have c22b1 := decide_eq_true c22
 try have c22b2 := eq_false (Nat.not_lt.2 c22)
 (try (have c22r := c22; simp only [ByteArray.size_append, ByteArray.size_extract, Nat.sub_zero, Nat.min_self] at c22r; have c22rt := eq_true c22r; have c22ru := eq_false (Nat.not_lt.mpr c22r); clear c22r))
 (try (have c22s := c22; simp [c12b0, c14b0, c16b0, c18b0, c20b0] at c22s; have c22t := eq_true c22s; have c22u := eq_false (Nat.not_lt.mpr c22s); clear c22s))
 replace H := OB H
 obtain ⟨t135, A23, H⟩ := H
 (try set_option simprocs false in dsimp only at H)
 replace H := OB H
 obtain ⟨t136, A24, H⟩ := H
 (try set_option simprocs false in dsimp only at H)
 replace H := IT H
 obtain ⟨c25, H⟩ := H
 have c25b0 := eq_true c25
 have c25b1 := decide_eq_true c25
 try have c25b2 := eq_false (Nat.not_lt.2 c25)
 replace H := IT H
 obtain ⟨c26, H⟩ := H
 have c26b0 := eq_true c26
 have c26b1 := decide_eq_true c26
 try have c26b2 := eq_false (Nat.not_lt.2 c26)
 (try (have c26r := c26; simp only [ByteArray.size_append, ByteArray.size_extract, Nat.sub_zero, Nat.min_self] at c26r; have c26rt := eq_true c26r; have c26ru := eq_false (Nat.not_lt.mpr c26r); clear c26r))
 (try (have c26s := c26; simp [c12b0, c14b0, c16b0, c18b0, c20b0, c22b0, c25b0] at c26s; have c26t := eq_true c26s; have c26u := eq_false (Nat.not_lt.mpr c26s); clear c26s))
 replace H := IT H
 obtain ⟨c27, H⟩ := H
 have c27b0 := eq_true c27
 have c27b1 := decide_eq_true c27
 try have c27b2 := eq_false (Nat.not_lt.2 c27)
 (try (have c27r := c27; simp only [ByteArray.size_append, ByteArray.size_extract, Nat.sub_zero, Nat.min_self] at c27r; have c27rt := eq_true c27r; have c27ru := eq_false (Nat.not_lt.mpr c27r); clear c27r))
 (try (have c27s := c27; simp [c12b0, c14b0, c16b0, c18b0, c20b0, c22b0, c25b0, c26b0] at c27s; have c27t := eq_true c27s; have c27u := eq_false (Nat.not_lt.mpr c27s); clear c27s))
 replace H := IT H
 obtain ⟨c28, H⟩ := H
 have c28b0 := eq_true c28
 have c28b1 := decide_eq_true c28
 try have c28b2 := eq_false (Nat.not_lt.2 c28)
 (try (have c28r := c28; simp only [ByteArray.size_append, ByteArray.size_extract, Nat.sub_zero, Nat.min_self] at c28r; (try rw [show (⟨#[0, 0]⟩ : ByteArray).size = 2 from rfl] at c28r); have c28rt := eq_true c28r; have c28ru := eq_false (Nat.not_lt.mpr c28r); clear c28r))
 (try (have c28s := c28; simp [c12b0, c14b0, c16b0, c18b0, c20b0, c22b0, c25b0, c26b0, c27b0] at c28s; have c28t := eq_true c28s; have c28u := eq_false (Nat.not_lt.mpr c28s); clear c28s))
 replace H := OB H
 obtain ⟨t137, A29, H⟩ := H
 (try set_option simprocs false in dsimp only at H)
 replace H := OB H
 obtain ⟨t138, A30, H⟩ := H
 (try set_option simprocs false in dsimp only at H)
 replace H := IT H
 obtain ⟨c31, H⟩ := H
 have c31b0 := eq_true c31
 have c31b1 := decide_eq_true c31
 try have c31b2 := eq_false (Nat.not_lt.2 c31)
 (try (have c31r := c31; simp only [ByteArray.size_append, ByteArray.size_extract, Nat.sub_zero, Nat.min_self] at c31r; have c31rt := eq_true c31r; have c31ru := eq_false (Nat.not_lt.mpr c31r); clear c31r))
 (try (have c31s := c31; simp [c12b0, c14b0, c16b0, c18b0, c20b0, c22b0, c25b0, c26b0, c27b0, c28b0] at c31s; have c31t := eq_true c31s; have c31u := eq_false (Nat.not_lt.mpr c31s); clear c31s))
 replace H := IT H
 obtain ⟨c32, H⟩ := H
 have c32b0 := eq_true c32
 have c32b1 := decide_eq_true c32
 try have c32b2 := eq_false (Nat.not_lt.2 c32)
 (try (have c32r := c32; simp only [ByteArray.size_append, ByteArray.size_extract, Nat.sub_zero, Nat.min_self] at c32r; have c32rt := eq_true c32r; have c32ru := eq_false (Nat.not_lt.mpr c32r); clear c32r))
 (try (have c32s := c32; simp [c12b0, c14b0, c16b0, c18b0, c20b0, c22b0, c25b0, c26b0, c27b0, c28b0, c31b0] at c32s; have c32t := eq_true c32s; have c32u := eq_false (Nat.not_lt.mpr c32s); clear c32s))
 replace H := IT H
 obtain ⟨c33, H⟩ := H
 have c33b0 := eq_true c33
 have c33b1 := decide_eq_true c33
 try have c33b2 := eq_false (Nat.not_lt.2 c33)
 (try (have c33r := c33; simp only [ByteArray.size_append, ByteArray.size_extract, Nat.sub_zero, Nat.min_self] at c33r; have c33rt := eq_true c33r; have c33ru := eq_false (Nat.not_lt.mpr c33r); clear c33r))
 (try (have c33s := c33; simp [c12b0, c14b0, c16b0, c18b0, c20b0, c22b0, c25b0, c26b0, c27b0, c28b0, c31b0, c32b0] at c33s; have c33t := eq_true c33s; have c33u := eq_false (Nat.not_lt.mpr c33s); clear c33s))
 simp only [Option.some.injEq, Prod.mk.injEq] at H
 obtain ⟨rfl, rfl⟩ := H
 try go_wp2_with (fail)
 replace BK126 := AA (blk_drew BK126.out)
 replace HB := AA (below_drew1 HB.out)
 refine start_ (n := 35) (S := fun w' => c9 gb126 a0_0 a0_1 a0_2 a0_3 a0_4 a0_5 a0_6 a0_7 a0_8 w') (ds := []) (bm 35 0x0) (by kernel_rfl) rfl rfl (HCs BK126) (fun hHeld => ?_); refine with_tabW weighbridgeref04_Build_p.tab7 weighbridgeref04_Build_p.bits7 (fun HT_ HW_ => ?_)
 generalize w36.drew = w38 at BK126 HB hHeld ⊢
 refine pu 0 24 (bm 35 0x1) HT_ ?_
 refine pu 1 25 (bm 35 0x3) HT_ ?_
 refine pu 2 26 (bm 35 0x7) HT_ ?_
 refine pu 4 28 (bm 35 0x17) HT_ ?_
 refine pu 8 32 (bm 35 0x117) HT_ ?_
 refine pu 9 33 (bm 35 0x317) HT_ ?_
 refine pu 10 34 (bm 35 0x717) HT_ ?_
 refine pu 11 35 (bm 35 0xf17) HT_ ?_
 refine pu 14 38 (bm 35 0x4f17) HT_ ?_
 refine pu 18 42 (bm 35 0x44f17) HT_ ?_
 refine pu 21 45 (bm 35 0x244f17) HT_ ?_
 refine pu 26 50 (bm 35 0x4244f17) HT_ ?_
 refine pu 30 54 (bm 35 0x44244f17) HT_ ?_
 refine tw 5 29 (bm 35 0x44244f37) HT_ HW_ hHeld ?_
 refine tw 15 39 (bm 35 0x4424cf37) HT_ HW_ hHeld ?_
 refine tw 19 43 (bm 35 0x442ccf37) HT_ HW_ hHeld ?_
 refine pu 20 44 (bm 35 0x443ccf37) HT_ ?_
 refine tw 22 46 (bm 35 0x447ccf37) HT_ HW_ hHeld ?_
 refine pu 23 47 (bm 35 0x44fccf37) HT_ ?_
 refine tw 27 51 (bm 35 0x4cfccf37) HT_ HW_ hHeld ?_
 refine tw 31 55 (bm 35 0xccfccf37) HT_ HW_ hHeld ?_
 refine oN 3 27 (bm 35 0xccfccf3f) HT_ (fun K hK => ?_)
 refine gR Tryz.func34 rfl rfl (weighbridgeref04_Num.calls 1 (wrap64 (64 + (wrap64 (Int.tdiv (wrap64 (20 + (a0_8.size : Int))) 4)))) t128 _ A10.out) ?_
 rintro w39 hb
 replace BK126 := BB BK126 hb
 replace HB := BS HB hb
 try clear hb
 refine hK.out _ _ (HCs BK126) (fun hHeld => ?_)
 clear hK K
 refine nm 27 ?_
 refine oN 6 30 (bm 35 0xccfccf7f) HT_ (fun K hK => ?_)
 refine gR Tryz.func34 rfl rfl (weighbridgeref04_Num.calls 1 a0_0 t129 _ A11.out) ?_
 rintro w40 hb
 replace BK126 := BB BK126 hb
 replace HB := BS HB hb
 try clear hb
 refine hK.out _ _ (HCs BK126) (fun hHeld => ?_)
 clear hK K
 refine nm 30 ?_
 refine pu 7 31 (bm 35 0xccfccfff) HT_ ?_
 refine oN 12 36 (bm 35 0xccfcdfff) HT_ (fun K hK => ?_)
 refine gR Tryz.func34 rfl rfl (weighbridgeref04_Num.calls 2 (wrap64 ((wrap64 (20 + (a0_8.size : Int))) + (a1.size : Int))) t130 _ A13.out) ?_
 rintro w41 hb
 replace BK126 := BB BK126 hb
 replace HB := BS HB hb
 try clear hb
 refine hK.out _ _ (HCs BK126) (fun hHeld => ?_)
 clear hK K
 refine nm 36 ?_
 refine pu 13 37 (bm 35 0xccfcffff) HT_ ?_
 refine oN 16 40 (bm 35 0xccfdffff) HT_ (fun K hK => ?_)
 refine gR Tryz.func34 rfl rfl (weighbridgeref04_Num.calls 2 a0_1 t131 _ A15.out) ?_
 rintro w42 hb
 replace BK126 := BB BK126 hb
 replace HB := BS HB hb
 try clear hb
 refine hK.out _ _ (HCs BK126) (fun hHeld => ?_)
 clear hK K
 refine nm 40 ?_
 refine pu 17 41 (bm 35 0xccffffff) HT_ ?_
 refine oN 24 48 (bm 35 0xcdffffff) HT_ (fun K hK => ?_)
 refine gR Tryz.func34 rfl rfl (weighbridgeref04_Num.calls 2 (wrap64 ((wrap64 (a0_2 * 8192)) + a0_3)) t132 _ A17.out) ?_
 rintro w43 hb
 replace BK126 := BB BK126 hb
 replace HB := BS HB hb
 try clear hb
 refine hK.out _ _ (HCs BK126) (fun hHeld => ?_)
 clear hK K
 refine nm 48 ?_
 refine pu 25 49 (bm 35 0xcfffffff) HT_ ?_
 refine oN 28 52 (bm 35 0xdfffffff) HT_ (fun K hK => ?_)
 refine gR Tryz.func34 rfl rfl (weighbridgeref04_Num.calls 1 a0_4 t133 _ A19.out) ?_
 rintro w44 hb
 replace BK126 := BB BK126 hb
 replace HB := BS HB hb
 try clear hb
 refine hK.out _ _ (HCs BK126) (fun hHeld => ?_)
 clear hK K
 refine nm 52 ?_
 refine pu 29 53 (bm 35 0xffffffff) HT_ ?_
 refine oN 32 56 (bm 35 0x1ffffffff) HT_ (fun K hK => ?_)
 refine gR Tryz.func34 rfl rfl (weighbridgeref04_Num.calls 1 a0_5 t134 _ A21.out) ?_
 rintro w45 hb
 replace BK126 := BB BK126 hb
 replace HB := BS HB hb
 try clear hb
 refine hK.out _ _ (HCs BK126) (fun hHeld => ?_)
 clear hK K
 refine nm 56 ?_
 refine pu 33 57 (bm 35 0x3ffffffff) HT_ ?_
 refine pu 34 8 (bm 35 0x7ffffffff) HT_ ?_
 refine done_ (done_of HT_.out (by kernel_rfl)) ?_
 try go_wp2
 replace BK126 := AA (blk_drew BK126.out)
 replace HB := AA (below_drew1 HB.out)
 refine start_ (n := 13) (S := fun w' => c9 gb126 a0_0 a0_1 a0_2 a0_3 a0_4 a0_5 a0_6 a0_7 a0_8 w') (ds := []) (bm 13 0x0) (by kernel_rfl) rfl rfl (HCs BK126) (fun hHeld => ?_); refine with_tabW weighbridgeref04_Build_p.tab8 weighbridgeref04_Build_p.bits8 (fun HT_ HW_ => ?_)
 generalize w45.drew = w46 at BK126 HB hHeld ⊢
 refine pu 0 58 (bm 13 0x1) HT_ ?_
 refine pu 4 62 (bm 13 0x11) HT_ ?_
 refine pu 9 67 (bm 13 0x211) HT_ ?_
 refine tw 1 59 (bm 13 0x213) HT_ HW_ hHeld ?_
 refine pu 2 60 (bm 13 0x217) HT_ ?_
 refine tw 5 63 (bm 13 0x237) HT_ HW_ hHeld ?_
 refine pu 6 64 (bm 13 0x277) HT_ ?_
 refine tw 10 68 (bm 13 0x677) HT_ HW_ hHeld ?_
 refine oN 3 61 (bm 13 0x67f) HT_ (fun K hK => ?_)
 refine gR Tryz.func34 rfl rfl (weighbridgeref04_Num.calls 4 (wrap64 (a0_6)) t135 _ A23.out) ?_
 rintro w47 hb
 replace BK126 := BB BK126 hb
 replace HB := BS HB hb
 try clear hb
 refine hK.out _ _ (HCs BK126) (fun hHeld => ?_)
 clear hK K
 refine nm 61 ?_
 refine oN 7 65 (bm 13 0x6ff) HT_ (fun K hK => ?_)
 refine gR Tryz.func34 rfl rfl (weighbridgeref04_Num.calls 4 (wrap64 (a0_7)) t136 _ A24.out) ?_
 rintro w48 hb
 replace BK126 := BB BK126 hb
 replace HB := BS HB hb
 try clear hb
 refine hK.out _ _ (HCs BK126) (fun hHeld => ?_)
 clear hK K
 refine nm 65 ?_
 refine pu 8 66 (bm 13 0x7ff) HT_ ?_
 refine pu 11 69 (bm 13 0xfff) HT_ ?_
 refine pu 12 9 (bm 13 0x1fff) HT_ ?_
 refine done_ (done_of HT_.out (by kernel_rfl)) ?_
 try go_wp2_with (first | ((with_reducible refine gkx 31 rfl ?_); refine gL 74 Tryz.func31 rfl (weighbridgeref03_Check.calls ((((((((t128 ++ t129) ++ t130) ++ t131) ++ t132) ++ t133) ++ t134) ++ (⟨#[0, 0]⟩ : ByteArray)) ++ ((t135 ++ t136) ++ a0_8)) t137 _ A29.out) ?_; rintro w49 hb; (try clear A29); replace BK126 := BB BK126 hb; replace HB := BS HB hb; (try clear hb)) | ((with_reducible refine gkx 34 rfl ?_); refine gL 78 Tryz.func34 rfl (weighbridgeref04_Num.calls 2 (wrap64 (t137)) t138 _ A30.out) ?_; rintro w50 hb; (try clear A30); replace BK126 := BB BK126 hb; replace HB := BS HB hb; (try clear hb)))
 go_ret2
 exact ⟨RT, BW HB⟩

theorem r4_num1 {n : Int} (h : 0 ≤ n ∧ n ≤ 255) : weighbridgeref04_Num.f 1 n = some (lb (Sp.beBytes 1 n)) := by
 rw [weighbridgeref04_Num_eq (by omega) (by omega), Sp.put_yes (Sp.fits1.2 h)]; rfl
theorem r4_num2 {n : Int} (h : 0 ≤ n ∧ n ≤ 65535) : weighbridgeref04_Num.f 2 n = some (lb (Sp.beBytes 2 n)) := by
 rw [weighbridgeref04_Num_eq (by omega) (by omega), Sp.put_yes (Sp.fits2.2 h)]; rfl
theorem r4_num4 {n : Int} (h : 0 ≤ n ∧ n ≤ 4294967295) : weighbridgeref04_Num.f 4 n = some (lb (Sp.beBytes 4 n)) := by
 rw [weighbridgeref04_Num_eq (by omega) (by omega), Sp.put_yes (Sp.fits_iff.2 ⟨by decide, by decide, h.1, by show n < 256 ^ 4; omega⟩)]; rfl
def weighbridgeref04_Build.f (a0_0 a0_1 a0_2 a0_3 a0_4 a0_5 a0_6 a0_7 : Int) (a0_8 : ByteArray) (a1 : ByteArray) : Option (ByteArray × Int) := if (0 ≤ a0_6 ∧ a0_6 ≤ 4294967295) ∧ (0 ≤ a0_7 ∧ a0_7 ≤ 4294967295) ∧ a0_8.size ≤ 140737488355328 ∧ a1.size ≤ 140737488355328 then some (lb (Sp.ip4Build a0_0 a0_1 a0_2 a0_3 a0_4 a0_5 a0_6 a0_7 (bl a0_8) (bl a1)).1, (Sp.ip4Build a0_0 a0_1 a0_2 a0_3 a0_4 a0_5 a0_6 a0_7 (bl a0_8) (bl a1)).2) else none
theorem weighbridgeref04_Build_eq {a0_0 a0_1 a0_2 a0_3 a0_4 a0_5 a0_6 a0_7 : Int} {a0_8 a1 : ByteArray} (h0 : 0 ≤ a0_6 ∧ a0_6 ≤ 4294967295) (h1 : 0 ≤ a0_7 ∧ a0_7 ≤ 4294967295) (h2 : a0_8.size ≤ 140737488355328) (h3 : a1.size ≤ 140737488355328) : weighbridgeref04_Build.f a0_0 a0_1 a0_2 a0_3 a0_4 a0_5 a0_6 a0_7 a0_8 a1 = some (lb (Sp.ip4Build a0_0 a0_1 a0_2 a0_3 a0_4 a0_5 a0_6 a0_7 (bl a0_8) (bl a1)).1, (Sp.ip4Build a0_0 a0_1 a0_2 a0_3 a0_4 a0_5 a0_6 a0_7 (bl a0_8) (bl a1)).2) := by unfold weighbridgeref04_Build.f; exact if_pos ⟨h0, h1, h2, h3⟩
theorem weighbridgeref04_Build_ev (a0_0 a0_1 a0_2 a0_3 a0_4 a0_5 a0_6 a0_7 : Int) (a0_8 a1 : ByteArray) (r : ByteArray × Int) (h : weighbridgeref04_Build.f a0_0 a0_1 a0_2 a0_3 a0_4 a0_5 a0_6 a0_7 a0_8 a1 = some r) : weighbridgeref04_Build_p.f a0_0 a0_1 a0_2 a0_3 a0_4 a0_5 a0_6 a0_7 a0_8 a1 = some r := by
 unfold weighbridgeref04_Build.f at h
 split at h
 case isFalse => cases h
 case isTrue hs =>
  obtain ⟨s6, s7, s8, s1⟩ := hs
  rw [← h]
  unfold weighbridgeref04_Build_p.f Sp.ip4Build
  rw [weighbridgeref04_Right_eq s8, Option.bind_some]
  have hl := bl_length a0_8
  have hb := bl_length a1
  by_cases hr : Sp.ip4Right a0_0 a0_1 a0_2 a0_3 a0_4 a0_5 (bl a0_8) = true
  rotate_left
  ·rw [if_neg hr, if_neg hr]; rfl
  obtain ⟨r0, r1, r2, r3, r4, r5, hol, _⟩ := Sp.ip4Right_iff.1 hr
  rw [if_pos hr, if_pos hr, r4_wrap (n := 20 + (a0_8.size : Int)) (by omega) (by omega), r4_wrap (n := 20 + (a0_8.size : Int) + (a1.size : Int)) (by omega) (by omega), hl, hb]
  by_cases hz : 20 + (a0_8.size : Int) + (a1.size : Int) > 1500
  ·rw [if_pos hz, if_pos hz]; rfl
  have hc := Sp.sum_bounds (Sp.ip4Head a0_0 a0_1 a0_2 a0_3 a0_4 a0_5 a0_6 a0_7 (bl a0_8) (20 + (a0_8.size : Int) + (a1.size : Int)) 0)
  obtain ⟨T, hT⟩ : ∃ T, 20 + (a0_8.size : Int) + (a1.size : Int) = T := ⟨_, rfl⟩
  rw [if_neg hz, if_neg hz, Int.tdiv_eq_ediv_of_nonneg (by omega), r4_wrap (n := (20 + (a0_8.size : Int)) / 4) (by omega) (by omega), r4_wrap (n := 64 + (20 + (a0_8.size : Int)) / 4) (by omega) (by omega), r4_wrap (n := a0_2 * 8192) (by omega) (by omega), r4_wrap (n := a0_2 * 8192 + a0_3) (by omega) (by omega), r4_wrap (n := a0_6) (by omega) (by omega), r4_wrap (n := a0_7) (by omega) (by omega), hT]
  rw [hT] at hc
  obtain ⟨V, hV⟩ : ∃ V, 64 + (20 + (a0_8.size : Int)) / 4 = V := ⟨_, rfl⟩
  obtain ⟨F, hF⟩ : ∃ F, a0_2 * 8192 + a0_3 = F := ⟨_, rfl⟩
  have b1 : ∀ x, (Sp.beBytes 1 x).length = 1 := fun x => Sp.beBytes_length 1 x
  have b2 : ∀ x, (Sp.beBytes 2 x).length = 2 := fun x => Sp.beBytes_length 2 x
  have b4 : ∀ x, (Sp.beBytes 4 x).length = 4 := fun x => Sp.beBytes_length 4 x
  rw [hV, hF, r4_num1 (n := V) (by omega), Option.bind_some, r4_num1 r0, Option.bind_some, if_pos (by simp only [ByteArray.size_append, lb_size, b1, b2, b4]; omega),
   r4_num2 (n := T) (by omega), Option.bind_some, if_pos (by simp only [ByteArray.size_append, lb_size, b1, b2, b4]; omega), r4_num2 r1, Option.bind_some, if_pos (by simp only [ByteArray.size_append, lb_size, b1, b2, b4]; omega),
   r4_num2 (n := F) (by omega), Option.bind_some, if_pos (by simp only [ByteArray.size_append, lb_size, b1, b2, b4]; omega), r4_num1 r4, Option.bind_some, if_pos (by simp only [ByteArray.size_append, lb_size, b1, b2, b4]; omega), r4_num1 r5, Option.bind_some, if_pos (by simp only [ByteArray.size_append, lb_size, b1, b2, b4]; omega),
   r4_num4 s6, Option.bind_some, r4_num4 s7, Option.bind_some, if_pos (by simp only [ByteArray.size_append, lb_size, b1, b2, b4]; omega), if_pos (by simp only [ByteArray.size_append, lb_size, b1, b2, b4]; omega), show (⟨#[0, 0]⟩ : ByteArray) = lb (Sp.beBytes 2 0) from rfl, if_pos (by simp only [ByteArray.size_append, lb_size, b1, b2, b4]; omega), if_pos (by simp only [ByteArray.size_append, lb_size, b1, b2, b4]; omega)]
  have eh : ∀ ck, lb (Sp.beBytes 1 V) ++ lb (Sp.beBytes 1 a0_0) ++ lb (Sp.beBytes 2 T) ++ lb (Sp.beBytes 2 a0_1) ++ lb (Sp.beBytes 2 F) ++ lb (Sp.beBytes 1 a0_4) ++ lb (Sp.beBytes 1 a0_5) ++ lb (Sp.beBytes 2 ck) ++ (lb (Sp.beBytes 4 a0_6) ++ lb (Sp.beBytes 4 a0_7) ++ a0_8) = lb (Sp.ip4Head a0_0 a0_1 a0_2 a0_3 a0_4 a0_5 a0_6 a0_7 (bl a0_8) T ck) := fun ck => Sp.bl_inj (by
   unfold Sp.ip4Head
   simp only [Sp.bl_append, Sp.bl_lb, List.append_assoc, hl, hV, hF])
  rw [eh 0, weighbridgeref03_Check_eq (by rw [lb_size, Sp.ip4Head_length]; omega), Option.bind_some, Sp.bl_lb]
  obtain ⟨K, hK⟩ : ∃ K, Sp.check (Sp.ip4Head a0_0 a0_1 a0_2 a0_3 a0_4 a0_5 a0_6 a0_7 (bl a0_8) T 0) = K := ⟨_, rfl⟩
  have hK2 : 0 ≤ K ∧ K ≤ 65535 := by rw [← hK]; unfold Sp.check; omega
  rw [hK, r4_wrap (n := K) (by omega) (by omega), r4_num2 hK2, Option.bind_some, if_pos (by simp only [ByteArray.size_append, lb_size, b1, b2, b4]; omega), if_pos (by simp only [ByteArray.size_append, lb_size, b1, b2, b4]; omega), eh K, if_pos (by rw [lb_size, Sp.ip4Head_length]; omega)]
  unfold Sp.ip4Full
  rw [hK, show lb (Sp.ip4Head a0_0 a0_1 a0_2 a0_3 a0_4 a0_5 a0_6 a0_7 (bl a0_8) T K) ++ a1 = lb (Sp.ip4Head a0_0 a0_1 a0_2 a0_3 a0_4 a0_5 a0_6 a0_7 (bl a0_8) T K ++ bl a1) from Sp.bl_inj (by simp only [Sp.bl_append, Sp.bl_lb])]
theorem weighbridgeref04_Build.calls (a0_0 : Int) (a0_1 : Int) (a0_2 : Int) (a0_3 : Int) (a0_4 : Int) (a0_5 : Int) (a0_6 : Int) (a0_7 : Int) (a0_8 : ByteArray) (a1 : ByteArray) (r1 : ByteArray) (r2 : Int) (w : World) (h : weighbridgeref04_Build.f a0_0 a0_1 a0_2 a0_3 a0_4 a0_5 a0_6 a0_7 a0_8 a1 = some (r1, r2)) :
  Calls Tryz.prog 11 #[.agg #[.int .i64 a0_0, .int .i64 a0_1, .int .i64 a0_2, .int .i64 a0_3, .int .i64 a0_4, .int .i64 a0_5, .int .u32 a0_6, .int .u32 a0_7, .string a0_8], .string a1] w fun e w' => e = .returned (.tuple #[.string r1, .int .i64 r2]) ∧ Below w.heap.size w w' := by
 have hk := weighbridgeref04_Build_ev a0_0 a0_1 a0_2 a0_3 a0_4 a0_5 a0_6 a0_7 a0_8 a1 _ h
 exact weighbridgeref04_Build_p.calls a0_0 a0_1 a0_2 a0_3 a0_4 a0_5 a0_6 a0_7 a0_8 a1 r1 r2 w hk

/-! ### weighbridgeref04_Sizes_p: function 66 -/
mutual
def weighbridgeref04_Sizes_p.j0 : Nat → ByteArray → Int → Bool → Option (Int × Int × Int)
 | 0, _, _, _ => none
 | k + 1, x0, x5, x27 => if x27 = true then (some (0, 0, 4)) else ((weighbridgeref01_Get.f x0 2 2).bind fun bt319 => (if bt319.1 < x5 then (weighbridgeref04_Sizes_p.j1 k x5 bt319.1 true) else (weighbridgeref04_Sizes_p.j1 k x5 bt319.1 (decide (bt319.1 > (x0.size : Int))))))
def weighbridgeref04_Sizes_p.j1 : Nat → Int → Int → Bool → Option (Int × Int × Int)
 | 0, _, _, _ => none
 | k + 1, x5, x6, x41 => if x41 = true then (some (0, 0, 5)) else (if x6 > 1500 then (some (0, 0, 18)) else (some (x5, x6, 0)))
end
def weighbridgeref04_Sizes_p.f (k : Nat) (a0 : ByteArray) : Option (Int × Int × Int) := if (a0.size : Int) < 20 then (some (0, 0, 2)) else (if 0 < (a0.size : Int) then (if ((Int.tdiv (bt a0 0) 16) % 256) = 4 then (if (wrap64 (4 * (wrap64 (Int.tmod (bt a0 0) 16)))) < 20 then (weighbridgeref04_Sizes_p.j0 k a0 (wrap64 (4 * (wrap64 (Int.tmod (bt a0 0) 16)))) true) else (weighbridgeref04_Sizes_p.j0 k a0 (wrap64 (4 * (wrap64 (Int.tmod (bt a0 0) 16)))) (decide ((wrap64 (4 * (wrap64 (Int.tmod (bt a0 0) 16)))) > (a0.size : Int))))) else (some (0, 0, 3))) else (none))
theorem weighbridgeref04_Sizes_p.mono_l : ∀ k, (∀ y0 y1 y2, LeO (weighbridgeref04_Sizes_p.j0 k y0 y1 y2) (weighbridgeref04_Sizes_p.j0 (k + 1) y0 y1 y2)) ∧ (∀ y0 y1 y2, LeO (weighbridgeref04_Sizes_p.j1 k y0 y1 y2) (weighbridgeref04_Sizes_p.j1 (k + 1) y0 y1 y2))
 | 0 => ⟨fun _ _ _ r h => by simp [weighbridgeref04_Sizes_p.j0] at h, fun _ _ _ r h => by simp [weighbridgeref04_Sizes_p.j1] at h⟩
 | k + 1 => by
  obtain ⟨ih0, ih1⟩ := weighbridgeref04_Sizes_p.mono_l k
  refine ⟨?_, ?_⟩
  ·intro y0 y1 y2
   unfold weighbridgeref04_Sizes_p.j0
   repeat' first
   | (with_reducible exact ih0 _ _ _)
   | (with_reducible exact ih1 _ _ _)
   | (with_reducible exact LeO.refl _)
   | (with_reducible exact LeO.none _)
   | (with_reducible refine LeO.ite ?_ ?_)
   | (with_reducible refine LeO.bind ?_ (fun _ => ?_))
   | exact ih0 _ _ _
   | exact ih1 _ _ _
   | exact LeO.none _
   | refine LeO.ite ?_ ?_
   | refine LeO.bind ?_ (fun _ => ?_)
  ·intro y0 y1 y2
   unfold weighbridgeref04_Sizes_p.j1
   repeat' first
   | (with_reducible exact ih0 _ _ _)
   | (with_reducible exact ih1 _ _ _)
   | (with_reducible exact LeO.refl _)
   | (with_reducible exact LeO.none _)
   | (with_reducible refine LeO.ite ?_ ?_)
   | (with_reducible refine LeO.bind ?_ (fun _ => ?_))
   | exact ih0 _ _ _
   | exact ih1 _ _ _
   | exact LeO.none _
   | refine LeO.ite ?_ ?_
   | refine LeO.bind ?_ (fun _ => ?_)
theorem weighbridgeref04_Sizes_p.mono : ∀ a0 k, LeO (weighbridgeref04_Sizes_p.f k a0) (weighbridgeref04_Sizes_p.f (k + 1) a0) := by
 intro a0 k
 obtain ⟨ih0, ih1⟩ := weighbridgeref04_Sizes_p.mono_l k
 unfold weighbridgeref04_Sizes_p.f
 repeat' first
   | (with_reducible exact ih0 _ _ _)
   | (with_reducible exact ih1 _ _ _)
   | (with_reducible exact LeO.refl _)
   | (with_reducible exact LeO.none _)
   | (with_reducible refine LeO.ite ?_ ?_)
   | (with_reducible refine LeO.bind ?_ (fun _ => ?_))
   | exact ih0 _ _ _
   | exact ih1 _ _ _
   | exact LeO.none _
   | refine LeO.ite ?_ ?_
   | refine LeO.bind ?_ (fun _ => ?_)
set_option maxHeartbeats 8000000 in
set_option maxRecDepth 100000 in
theorem weighbridgeref04_Sizes_p.calls (k : Nat) (a0 : ByteArray) (r1 : Int) (r2 : Int) (r3 : Int) (w : World) (h : weighbridgeref04_Sizes_p.f k a0 = some (r1, r2, r3)) :
  Calls Tryz.prog 66 #[.string a0] w fun e w' => e = .returned (.tuple #[.int .i64 r1, .int .i64 r2, .int .i64 r3]) ∧ Drawn0 w w' := by
 have H := h
 unfold weighbridgeref04_Sizes_p.f at H
 clear h
 by_cases c2 : (a0.size : Int) < 20
 ·rw [if_pos c2] at H
  have c2b0 := decide_eq_true c2
  have c2b1 : decide (a0.size < 20) = true := decide_eq_true (by omega)
  clear c2
  simp only [Option.some.injEq, Prod.mk.injEq] at H
  obtain ⟨rfl, rfl, rfl⟩ := H
  go_enter Tryz.func66, Tryz.ntmps66
  go_wp2
  go_ret3
  exact ⟨RS, DW⟩
 rw [if_neg c2] at H
 have c2b0 := decide_eq_false c2
 have c2b1 : decide (a0.size < 20) = false := decide_eq_false (by omega)
 clear c2
 replace H := IT H
 obtain ⟨c3, H⟩ := H
 have c3b0 := decide_eq_true c3
 have c3b1 : decide (0 < a0.size) = true := decide_eq_true (by omega)
 clear c3
 by_cases c5 : ((Int.tdiv (bt a0 0) 16) % 256) = 4
 rotate_left
 ·rw [if_neg c5] at H
  have c5b0 := BF c5
  have c5b1 := NT c5
  simp only [Option.some.injEq, Prod.mk.injEq] at H
  obtain ⟨rfl, rfl, rfl⟩ := H
  have p4 : 0 ≤ (0 : Int) := (by omega)
  have q4 : 0 < a0.size := (by have : (0 : Int) < (a0.size : Int) := DA; omega)
  have hx4 : ∀ h : 0 < a0.size, ((a0[0]'h).toNat : Int) = bt a0 0 := bt_at a0 0
  clear p4
  have qi4 : (0 < (a0.size : Int)) = True := eq_true (DA)
  replace q4 := eq_true q4
  go_enter Tryz.func66, Tryz.ntmps66
  go_wp2
  go_ret3
  exact ⟨RS, DW⟩
 rw [if_pos c5] at H
 have c5b0 := BT c5
 have c5b1 := NF c5
 clear c5
 have HC7 := AA H
 clear H
 have p4 : 0 ≤ (0 : Int) := (by omega)
 have q4 : 0 < a0.size := (by have : (0 : Int) < (a0.size : Int) := DA; omega)
 have hx4 : ∀ h : 0 < a0.size, ((a0[0]'h).toNat : Int) = bt a0 0 := bt_at a0 0
 clear p4
 have qi4 : (0 < (a0.size : Int)) = True := eq_true (DA)
 replace q4 := eq_true q4
 have p6 : 0 ≤ (0 : Int) := (by omega)
 have q6 : 0 < a0.size := (by have : (0 : Int) < (a0.size : Int) := DA; omega)
 have hx6 : ∀ h : 0 < a0.size, ((a0[0]'h).toNat : Int) = bt a0 0 := bt_at a0 0
 clear p6
 have qi6 : (0 < (a0.size : Int)) = True := eq_true (DA)
 replace q6 := eq_true q6
 go_enter Tryz.func66, Tryz.ntmps66
 go_upto_region 6 with (fail)
 go_cut [27] (fun v27 wc => ∃ (kq : Nat) (x27_6 : Bool), v27 = .bool x27_6 ∧ Aside0 (weighbridgeref04_Sizes_p.j0 kq a0 (wrap64 (4 * (wrap64 (Int.tmod (bt a0 0) 16)))) x27_6 = some (r1, r2, r3)) ∧ Aside0 (kq ≤ k) ∧ Drawn0 w wc)
 case first =>
  have H := HC7.out
  clear HC7
  by_cases c8 : (wrap64 (4 * (wrap64 (Int.tmod (bt a0 0) 16)))) < 20
  ·rw [if_pos c8] at H
   have c8b0 := decide_eq_true c8
   clear c8
   (first | rw [c8b0] | (simp only [i64_w, i32_w]; rw [c8b0]) | skip)
   have H' := AA H
   clear H
   go_wp2
   go_meet
   case rel => exact ⟨_, (true), QS, H', LR, DW⟩
  rw [if_neg c8] at H
  have c8b0 := decide_eq_false c8
  clear c8
  (first | rw [c8b0] | (simp only [i64_w, i32_w]; rw [c8b0]) | skip)
  have H' := AA H
  clear H
  go_wp2
  go_meet
  case rel => exact ⟨_, (decide ((wrap64 (4 * (wrap64 (Int.tmod (bt a0 0) 16)))) > (a0.size : Int))), QS, H', LR, DW⟩
 case rest =>
  clear HC7
  try clear c2; try clear c2b0; try clear c2b1; try clear p2; try clear c3; try clear c3b0; try clear c3b1; try clear p4; try clear q4; try clear hx4; try clear qi4; try clear c5; try clear c5b0; try clear c5b1; try clear c6; try clear p6; try clear q6; try clear hx6; try clear qi6; try clear c8; try clear c8b0; try clear p4; try clear p6; try clear q4; try clear q6
  obtain ⟨kq, x27_6, rfl, HA, HJ6, ⟨mc6, rfl⟩⟩ := hcut
  cases kq with
  | zero => exact absurd HA.out (by simp [weighbridgeref04_Sizes_p.j0])
  | succ kj6 =>
   have H := HA.out
   clear HA
   simp only [weighbridgeref04_Sizes_p.j0] at H
   by_cases c9 : x27_6 = true
   ·subst c9
    first | rw [if_pos rfl] at H | rw [if_pos trivial] at H
    simp only [Option.some.injEq, Prod.mk.injEq] at H
    obtain ⟨rfl, rfl, rfl⟩ := H
    go_wp2
    go_ret3
    exact ⟨RS, DW⟩
   replace c9 := Bool.eq_false_iff.mpr c9
   subst c9
   replace H := IFN H
   replace H := OB H
   obtain ⟨⟨t319, t320⟩, A10, H⟩ := H
   (try set_option simprocs false in dsimp only at H)
   have HC11 := AA H
   clear H
   go_upto_region 9 with (first | ((with_reducible refine gkx 29 rfl ?_); refine gL 30 Tryz.func29 rfl (weighbridgeref01_Get.calls a0 2 2 t319 t320 _ A10.out) ?_; rintro w' ⟨nd, rfl⟩))
   (try simp only [Act.put, List.setIfInBounds_toArray, List.set_cons_zero, List.set_cons_succ])
   go_cut [41] (fun v41 wc => ∃ (kq : Nat) (x41_10 : Bool), v41 = .bool x41_10 ∧ Aside0 (weighbridgeref04_Sizes_p.j1 kq (wrap64 (4 * (wrap64 (Int.tmod (bt a0 0) 16)))) t319 x41_10 = some (r1, r2, r3)) ∧ Aside0 (kq ≤ kj6) ∧ Drawn0 w wc)
   case first =>
    have H := HC11.out
    clear HC11
    by_cases c12 : t319 < (wrap64 (4 * (wrap64 (Int.tmod (bt a0 0) 16))))
    ·rw [if_pos c12] at H
     have c12b0 := decide_eq_true c12
     clear c12
     (first | rw [c12b0] | (simp only [i64_w, i32_w]; rw [c12b0]) | skip)
     have H' := AA H
     clear H
     go_wp2
     go_meet
     case rel => exact ⟨_, (true), QS, H', ⟨by have := HJ6.out; first | omega | exact Nat.le_refl _⟩, DW⟩
    rw [if_neg c12] at H
    have c12b0 := decide_eq_false c12
    clear c12
    (first | rw [c12b0] | (simp only [i64_w, i32_w]; rw [c12b0]) | skip)
    have H' := AA H
    clear H
    go_wp2
    go_meet
    case rel => exact ⟨_, (decide (t319 > (a0.size : Int))), QS, H', ⟨by have := HJ6.out; first | omega | exact Nat.le_refl _⟩, DW⟩
   case rest =>
    clear HC11
    try clear c1; try clear c2; try clear c2b0; try clear c2b1; try clear p2; try clear c3; try clear c3b0; try clear c3b1; try clear p4; try clear q4; try clear hx4; try clear qi4; try clear c5; try clear c5b0; try clear c5b1; try clear c6; try clear p6; try clear q6; try clear hx6; try clear qi6; try clear c8; try clear c8b0; try clear c9; try clear c12; try clear c12b0; try clear p2; try clear p4; try clear p6; try clear q4; try clear q6
    obtain ⟨kq, x41_10, rfl, HA, HJ10, ⟨mc10, rfl⟩⟩ := hcut
    cases kq with
    | zero => exact absurd HA.out (by simp [weighbridgeref04_Sizes_p.j1])
    | succ kj10 =>
     have H := HA.out
     clear HA
     simp only [weighbridgeref04_Sizes_p.j1] at H
     by_cases c13 : x41_10 = true
     ·subst c13
      first | rw [if_pos rfl] at H | rw [if_pos trivial] at H
      simp only [Option.some.injEq, Prod.mk.injEq] at H
      obtain ⟨rfl, rfl, rfl⟩ := H
      go_wp2
      go_ret3
      exact ⟨RS, DW⟩
     replace c13 := Bool.eq_false_iff.mpr c13
     subst c13
     replace H := IFN H
     by_cases c14 : t319 > 1500
     ·rw [if_pos c14] at H
      have c14b0 : decide (1500 < t319) = true := decide_eq_true c14
      clear c14
      simp only [Option.some.injEq, Prod.mk.injEq] at H
      obtain ⟨rfl, rfl, rfl⟩ := H
      go_wp2
      go_ret3
      exact ⟨RS, DW⟩
     rw [if_neg c14] at H
     have c14b0 : decide (1500 < t319) = false := decide_eq_false c14
     clear c14
     simp only [Option.some.injEq, Prod.mk.injEq] at H
     obtain ⟨rfl, rfl, rfl⟩ := H
     go_wp2
     go_ret3
     exact ⟨RS, DW⟩

theorem r4_b0 {s : ByteArray} (h : 0 < s.size) : bt s 0 = Sp.ip4B0 (bl s) := by
 have hl := bl_length s
 have h0 : 0 < (bl s).length := by omega
 have := r4_bt h0
 rw [show (((0 : Nat)) : Int) = 0 from rfl] at this
 rw [this]
 unfold Sp.ip4B0
 rw [List.headD_eq_head?_getD, List.head?_eq_getElem?, List.getElem?_eq_getElem h0]
 rfl
def weighbridgeref04_Sizes.f (a0 : ByteArray) : Option (Int × Int × Int) := if a0.size ≤ 140737488355328 then some (Sp.ip4Sizes (bl a0)) else none
theorem weighbridgeref04_Sizes_eq {a0 : ByteArray} (h : a0.size ≤ 140737488355328) : weighbridgeref04_Sizes.f a0 = some (Sp.ip4Sizes (bl a0)) := by unfold weighbridgeref04_Sizes.f; exact if_pos h
theorem weighbridgeref04_Sizes_ev (a0 : ByteArray) (r : Int × Int × Int) (h : weighbridgeref04_Sizes.f a0 = some r) : ∃ k, weighbridgeref04_Sizes_p.f k a0 = some r := by
 unfold weighbridgeref04_Sizes.f at h
 split at h
 case isFalse => cases h
 case isTrue hs =>
  refine ⟨2, ?_⟩
  rw [← h]
  have hl := bl_length a0
  unfold weighbridgeref04_Sizes_p.f Sp.ip4Sizes
  rw [hl]
  by_cases h1 : (a0.size : Int) < 20
  ·rw [if_pos h1, if_pos h1]
  rw [if_neg h1, if_neg h1, if_pos (by omega), r4_b0 (by omega)]
  have hB := Sp.ip4B0_bounds (bl a0)
  have eL : wrap64 (4 * wrap64 (Int.tmod (Sp.ip4B0 (bl a0)) 16)) = Sp.ip4Len (bl a0) := by
   rw [Int.tmod_eq_emod_of_nonneg hB.1, r4_wrap (n := Sp.ip4B0 (bl a0) % 16) (by omega) (by omega), r4_wrap (by omega) (by omega)]
   rfl
  have eV : Int.tdiv (Sp.ip4B0 (bl a0)) 16 % 256 = Sp.ip4B0 (bl a0) / 16 := by
   rw [Int.tdiv_eq_ediv_of_nonneg hB.1]; omega
  rw [eL, eV]
  by_cases h2 : Sp.ip4B0 (bl a0) / 16 = 4
  rotate_left
  ·rw [if_neg h2, if_pos h2]
  rw [if_pos h2, if_neg (show ¬ (Sp.ip4B0 (bl a0) / 16 ≠ 4) from fun h => h h2)]
  have inner : ¬ (Sp.ip4Len (bl a0) < 20 ∨ Sp.ip4Len (bl a0) > (a0.size : Int)) → weighbridgeref04_Sizes_p.j0 2 a0 (Sp.ip4Len (bl a0)) false = some (if Sp.ip4Tot (bl a0) < Sp.ip4Len (bl a0) ∨ Sp.ip4Tot (bl a0) > (a0.size : Int) then (0, 0, 5) else if Sp.ip4Tot (bl a0) > 1500 then (0, 0, 18) else (Sp.ip4Len (bl a0), Sp.ip4Tot (bl a0), 0)) := fun _ => by
   rw [weighbridgeref04_Sizes_p.j0, if_neg (by decide), weighbridgeref01_Get_eq _ _ _ (by omega), Option.bind_some]
   show (if Sp.ip4Tot (bl a0) < Sp.ip4Len (bl a0) then weighbridgeref04_Sizes_p.j1 1 (Sp.ip4Len (bl a0)) (Sp.ip4Tot (bl a0)) true else weighbridgeref04_Sizes_p.j1 1 (Sp.ip4Len (bl a0)) (Sp.ip4Tot (bl a0)) (decide (Sp.ip4Tot (bl a0) > (a0.size : Int)))) = _
   by_cases h5 : Sp.ip4Tot (bl a0) < Sp.ip4Len (bl a0)
   ·rw [if_pos h5, if_pos (Or.inl h5), weighbridgeref04_Sizes_p.j1, if_pos rfl]
   ·rw [if_neg h5]
    by_cases h6 : Sp.ip4Tot (bl a0) > (a0.size : Int)
    ·rw [decide_eq_true h6, if_pos (Or.inr h6), weighbridgeref04_Sizes_p.j1, if_pos rfl]
    ·rw [decide_eq_false h6, if_neg (by omega), weighbridgeref04_Sizes_p.j1, if_neg (by decide)]
     by_cases h7 : Sp.ip4Tot (bl a0) > 1500
     ·rw [if_pos h7, if_pos h7]
     ·rw [if_neg h7, if_neg h7]
  by_cases h3 : Sp.ip4Len (bl a0) < 20
  ·rw [if_pos h3, if_pos (Or.inl h3), weighbridgeref04_Sizes_p.j0, if_pos rfl]
  rw [if_neg h3]
  by_cases h4 : Sp.ip4Len (bl a0) > (a0.size : Int)
  ·rw [decide_eq_true h4, if_pos (Or.inr h4), weighbridgeref04_Sizes_p.j0, if_pos rfl]
  rw [decide_eq_false h4, if_neg (show ¬ (Sp.ip4Len (bl a0) < 20 ∨ Sp.ip4Len (bl a0) > (a0.size : Int)) by omega)]
  exact inner (by omega)
theorem weighbridgeref04_Sizes.calls (a0 : ByteArray) (r1 : Int) (r2 : Int) (r3 : Int) (w : World) (h : weighbridgeref04_Sizes.f a0 = some (r1, r2, r3)) :
  Calls Tryz.prog 66 #[.string a0] w fun e w' => e = .returned (.tuple #[.int .i64 r1, .int .i64 r2, .int .i64 r3]) ∧ Drawn0 w w' := by
 obtain ⟨k, hk⟩ := weighbridgeref04_Sizes_ev a0 _ h
 exact weighbridgeref04_Sizes_p.calls k a0 r1 r2 r3 w hk

/-! ### weighbridgeref04_num: function 95 -/
def weighbridgeref04_num.f (a0 : ByteArray) (a1 : Int) (a2 : Int) : Option (Int) := (weighbridgeref01_Get.f a0 a1 a2).bind fun bt321 => (some bt321.1)
set_option maxHeartbeats 8000000 in
set_option maxRecDepth 100000 in
theorem weighbridgeref04_num.calls (a0 : ByteArray) (a1 : Int) (a2 : Int) (r : Int) (w : World) (h : weighbridgeref04_num.f a0 a1 a2 = some r) :
  Calls Tryz.prog 95 #[.string a0, .int .i64 a1, .int .i64 a2] w fun e w' => e = .returned (.int .i64 r) ∧ Drawn0 w w' := by
 have H : ((weighbridgeref01_Get.f a0 a1 a2).bind fun bt321 => (some bt321.1)) = some r := h
 clear h
 replace H := OB H
 obtain ⟨⟨t321, t322⟩, A4, H⟩ := H
 (try set_option simprocs false in dsimp only at H)
 obtain rfl := Option.some.inj H
 go_enter Tryz.func95, Tryz.ntmps95
 go_wp2_with (first | ((with_reducible refine gkx 29 rfl ?_); refine gL 13 Tryz.func29 rfl (weighbridgeref01_Get.calls a0 a1 a2 t321 t322 _ A4.out) ?_; rintro w' ⟨nd, rfl⟩))
 go_ret
 exact ⟨RS, DW⟩

end Go.Proofs.YtfnjohklmpiboaaGreat.Pr
