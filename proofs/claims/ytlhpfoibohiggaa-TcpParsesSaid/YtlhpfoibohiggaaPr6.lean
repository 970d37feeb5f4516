-- Written by a program of the session (wip/tools) out of the translation, over the kit's print; with pieces of the session's own.
import Derived.Test.YtlhpfoibohiggaaPr0
import Derived.Test.YtlhpfoibohiggaaPr8
namespace Go.Proofs.Ytlhpfoibohiggaa.Pr
open Go.RowKit Go.Proofs.YtlhpfoibohiggaaW.PrintWords Go.Proofs.YtlhpfoibohiggaaW.PrintLast Go.Proofs.YtlhpfoibohiggaaW.PrintMore
attribute [local go_sem] max2_int min2_int max_two min_two max_three min_three max_four min_four   -- for this text's walks alone
set_option linter.unusedVariables false
set_option linter.unusedSimpArgs false
open Go.Proofs.Ytlhpfoibohiggaa.Sp
/-! ### weighbridgeref04_OptsRight_p: function 17 -/
def weighbridgeref04_OptsRight_p.l0 : Nat → ByteArray → Int → Option (Bool)
  | 0, _, _ => none
  | k + 1, x0, x3 => if x3 < (x0.size : Int) then (if 0 ≤ x3 then (if (bt x0 x3) = 0 then (some true) else (if (bt x0 x3) = 1 then (weighbridgeref04_OptsRight_p.l0 k x0 (wrap64 (x3 + 1))) else (if (wrap64 (x3 + 1)) ≥ (x0.size : Int) then (some false) else (if 0 ≤ (wrap64 (x3 + 1)) then (if (wrap64 (x3 + 1)) < (x0.size : Int) then (if (bt x0 (wrap64 (x3 + 1))) < 2 then (some false) else (if (wrap64 (x3 + (wrap64 (bt x0 (wrap64 (x3 + 1)))))) > (x0.size : Int) then (some false) else (weighbridgeref04_OptsRight_p.l0 k x0 (wrap64 (x3 + (wrap64 (bt x0 (wrap64 (x3 + 1))))))))) else (none)) else (none))))) else (none)) else (some true)
def weighbridgeref04_OptsRight_p.f (k : Nat) (a0 : ByteArray) : Option (Bool) := weighbridgeref04_OptsRight_p.l0 k a0 0
theorem weighbridgeref04_OptsRight_p.mono_l : ∀ k, (∀ y0 y1, LeO (weighbridgeref04_OptsRight_p.l0 k y0 y1) (weighbridgeref04_OptsRight_p.l0 (k + 1) y0 y1))
  | 0 => fun _ _ r h => by simp [weighbridgeref04_OptsRight_p.l0] at h
  | k + 1 => by
    have ih0 := weighbridgeref04_OptsRight_p.mono_l k
    · intro y0 y1
      unfold weighbridgeref04_OptsRight_p.l0
      repeat' first
      | (with_reducible exact ih0 _ _)
      | (with_reducible exact LeO.refl _)
      | (with_reducible exact LeO.none _)
      | (with_reducible refine LeO.ite ?_ ?_)
      | (with_reducible refine LeO.bind ?_ (fun _ => ?_))
      | exact ih0 _ _
      | exact LeO.none _
      | refine LeO.ite ?_ ?_
      | refine LeO.bind ?_ (fun _ => ?_)
theorem weighbridgeref04_OptsRight_p.mono : ∀ a0 k, LeO (weighbridgeref04_OptsRight_p.f k a0) (weighbridgeref04_OptsRight_p.f (k + 1) a0) := by
  intro a0 k
  have ih0 := weighbridgeref04_OptsRight_p.mono_l k
  unfold weighbridgeref04_OptsRight_p.f
  repeat' first
      | (with_reducible exact ih0 _ _)
      | (with_reducible exact LeO.refl _)
      | (with_reducible exact LeO.none _)
      | (with_reducible refine LeO.ite ?_ ?_)
      | (with_reducible refine LeO.bind ?_ (fun _ => ?_))
      | exact ih0 _ _
      | exact LeO.none _
      | refine LeO.ite ?_ ?_
      | refine LeO.bind ?_ (fun _ => ?_)
set_option maxHeartbeats 8000000 in
set_option maxRecDepth 100000 in
theorem weighbridgeref04_OptsRight_p.calls (k : Nat) (a0 : ByteArray) (r : Bool) (w : World) (h : weighbridgeref04_OptsRight_p.f k a0 = some r) :
    Calls Try.prog 17 #[.string a0] w fun e w' => e = .returned (.bool r) ∧ Drawn0 w w' := by
  have H : (weighbridgeref04_OptsRight_p.l0 k a0 0) = some r := h
  clear h
  have H' := Aside0.mk H
  clear H
  go_enter Try.func17, Try.ntmps17
  go_wp2
  go_loopg [3] k (fun kq v3 w' => ∃ (x3_1 : Int), v3 = .int .i64 x3_1 ∧ Aside0 (weighbridgeref04_OptsRight_p.l0 kq a0 x3_1 = some r) ∧ Aside0 (kq ≤ k) ∧ Drawn0 w w')
  case atStart => exact ⟨(0), (by first | rfl | (simp; done) | (simp [*]; done)), H', ⟨Nat.le_refl _⟩, by repeat (first | exact Drawn0.refl _ | apply Drawn0.step)⟩
  case round =>
    clear H'
    try clear c1
    obtain ⟨x3_1, rfl, HA, HK1, ⟨m1, rfl⟩⟩ := hrel
    cases gk with
    | zero => exact absurd HA.out (by simp [weighbridgeref04_OptsRight_p.l0])
    | succ k1 =>
      have H := HA.out
      clear HA
      simp only [weighbridgeref04_OptsRight_p.l0] at H
      by_cases c2 : x3_1 < (a0.size : Int)
      · rw [if_pos c2] at H
        have c2b0 : decide (x3_1 < (a0.size : Int)) = true := decide_eq_true c2
        clear c2
        by_cases c3 : 0 ≤ x3_1
        · rw [if_pos c3] at H
          have c3b0 : decide (0 ≤ x3_1) = true := decide_eq_true c3
          clear c3
          by_cases c5 : (bt a0 x3_1) = 0
          · rw [if_pos c5] at H
            have c5b0 : ((bt a0 x3_1) == 0) = true := beq_iff_eq.mpr c5
            have c5b1 : ((bt a0 x3_1) != 0) = false := bne_eq_false_iff_eq.mpr c5
            clear c5
            obtain rfl := Option.some.inj H
            have p4 : 0 ≤ (x3_1 : Int) := of_decide_eq_true (by first | (with_reducible assumption) | assumption)
            have q4 : x3_1 < (a0.size : Int) := of_decide_eq_true (by first | (with_reducible assumption) | assumption)
            have hx4 := bt_at a0 x3_1
            replace p4 := eq_true p4
            replace q4 := eq_true q4
            go_wp2
            go_ret
            exact ⟨by first | rfl | (simp; done) | (simp [*]; done), by repeat (first | exact Drawn0.refl _ | apply Drawn0.step)⟩
          · rw [if_neg c5] at H
            have c5b0 : ((bt a0 x3_1) == 0) = false := beq_eq_false_iff_ne.mpr c5
            have c5b1 : ((bt a0 x3_1) != 0) = true := bne_iff_ne.mpr c5
            by_cases c6 : (bt a0 x3_1) = 1
            · rw [if_pos c6] at H
              have c6b0 : ((bt a0 x3_1) == 1) = true := beq_iff_eq.mpr c6
              have c6b1 : ((bt a0 x3_1) != 1) = false := bne_eq_false_iff_eq.mpr c6
              clear c6
              have H' := Aside0.mk H
              clear H
              have p4 : 0 ≤ (x3_1 : Int) := of_decide_eq_true (by first | (with_reducible assumption) | assumption)
              have q4 : x3_1 < (a0.size : Int) := of_decide_eq_true (by first | (with_reducible assumption) | assumption)
              have hx4 := bt_at a0 x3_1
              replace p4 := eq_true p4
              replace q4 := eq_true q4
              go_wp2
              go_roundg k1
              case measure => have := HK1.out; omega
              case rel => exact ⟨(wrap64 (x3_1 + 1)), (by first | rfl | (simp; done) | (congr 2; simp only [ByteArray.size_extract, ByteArray.size_append]; (try unfold wrap64); omega) | (simp only [ByteArray.size_extract, ByteArray.size_append, Nat.sub_zero]; done) | (congr 1; simp only [ByteArray.size_extract, ByteArray.size_append, Nat.sub_zero]; omega) | (simp [*]; done)), H', ⟨by have := HK1.out; omega⟩, by repeat (first | exact Drawn0.refl _ | apply Drawn0.step)⟩
            · rw [if_neg c6] at H
              have c6b0 : ((bt a0 x3_1) == 1) = false := beq_eq_false_iff_ne.mpr c6
              have c6b1 : ((bt a0 x3_1) != 1) = true := bne_iff_ne.mpr c6
              by_cases c7 : (wrap64 (x3_1 + 1)) ≥ (a0.size : Int)
              · rw [if_pos c7] at H
                have c7b0 : decide ((a0.size : Int) ≤ (wrap64 (x3_1 + 1))) = true := decide_eq_true c7
                clear c7
                obtain rfl := Option.some.inj H
                have p4 : 0 ≤ (x3_1 : Int) := of_decide_eq_true (by first | (with_reducible assumption) | assumption)
                have q4 : x3_1 < (a0.size : Int) := of_decide_eq_true (by first | (with_reducible assumption) | assumption)
                have hx4 := bt_at a0 x3_1
                replace p4 := eq_true p4
                replace q4 := eq_true q4
                go_wp2
                go_ret
                exact ⟨by first | rfl | (simp; done) | (simp [*]; done), by repeat (first | exact Drawn0.refl _ | apply Drawn0.step)⟩
              · rw [if_neg c7] at H
                have c7b0 : decide ((a0.size : Int) ≤ (wrap64 (x3_1 + 1))) = false := decide_eq_false c7
                clear c7
                obtain ⟨ji8, hji8⟩ : ∃ j_ : Int, (wrap64 (x3_1 + 1)) = j_ := ⟨_, rfl⟩
                replace H : (if 0 ≤ (ji8) then (if (ji8) < (a0.size : Int) then (if (bt a0 (ji8)) < 2 then (some false) else (if (wrap64 (x3_1 + (wrap64 (bt a0 (ji8))))) > (a0.size : Int) then (some false) else (weighbridgeref04_OptsRight_p.l0 k1 a0 (wrap64 (x3_1 + (wrap64 (bt a0 (ji8)))))))) else (none)) else (none)) = some r := by first | (rw [hji8] at H; exact H) | (simp only [hji8] at H ⊢; exact H)
                (try rw [hji8] at c7b0)
                have hji8w : (IntKind.i64.wrap (x3_1 + 1)) = ji8 := (i64_w _).trans hji8
                by_cases c9 : 0 ≤ (ji8)
                · rw [if_pos c9] at H
                  have c9b0 : decide (0 ≤ (ji8)) = true := decide_eq_true c9
                  clear c9
                  by_cases c10 : (ji8) < (a0.size : Int)
                  · rw [if_pos c10] at H
                    have c10b0 : decide ((ji8) < (a0.size : Int)) = true := decide_eq_true c10
                    clear c10
                    by_cases c12 : (bt a0 (ji8)) < 2
                    · rw [if_pos c12] at H
                      have c12b0 : decide ((bt a0 (ji8)) < 2) = true := decide_eq_true c12
                      clear c12
                      obtain rfl := Option.some.inj H
                      have p4 : 0 ≤ (x3_1 : Int) := of_decide_eq_true (by first | (with_reducible assumption) | assumption)
                      have q4 : x3_1 < (a0.size : Int) := of_decide_eq_true (by first | (with_reducible assumption) | assumption)
                      have hx4 := bt_at a0 x3_1
                      replace p4 := eq_true p4
                      replace q4 := eq_true q4
                      have p11 : 0 ≤ ((ji8) : Int) := of_decide_eq_true (by first | (with_reducible assumption) | assumption)
                      have q11 : (ji8) < (a0.size : Int) := of_decide_eq_true (by first | (with_reducible assumption) | assumption)
                      have hx11 := bt_at a0 (ji8)
                      replace p11 := eq_true p11
                      replace q11 := eq_true q11
                      go_wp2
                      go_ret
                      exact ⟨by first | rfl | (simp; done) | (simp only [← hji8] <;> (first | rfl | simp)) | (simp [*]; done), by repeat (first | exact Drawn0.refl _ | apply Drawn0.step)⟩
                    · rw [if_neg c12] at H
                      have c12b0 : decide ((bt a0 (ji8)) < 2) = false := decide_eq_false c12
                      clear c12
                      by_cases c14 : (wrap64 (x3_1 + (wrap64 (bt a0 (ji8))))) > (a0.size : Int)
                      · rw [if_pos c14] at H
                        have c14b0 : decide ((a0.size : Int) < (wrap64 (x3_1 + (wrap64 (bt a0 (ji8)))))) = true := decide_eq_true c14
                        clear c14
                        obtain rfl := Option.some.inj H
                        have p4 : 0 ≤ (x3_1 : Int) := of_decide_eq_true (by first | (with_reducible assumption) | assumption)
                        have q4 : x3_1 < (a0.size : Int) := of_decide_eq_true (by first | (with_reducible assumption) | assumption)
                        have hx4 := bt_at a0 x3_1
                        replace p4 := eq_true p4
                        replace q4 := eq_true q4
                        have p11 : 0 ≤ ((ji8) : Int) := of_decide_eq_true (by first | (with_reducible assumption) | assumption)
                        have q11 : (ji8) < (a0.size : Int) := of_decide_eq_true (by first | (with_reducible assumption) | assumption)
                        have hx11 := bt_at a0 (ji8)
                        replace p11 := eq_true p11
                        replace q11 := eq_true q11
                        have p13 : 0 ≤ ((ji8) : Int) := of_decide_eq_true (by first | (with_reducible assumption) | assumption)
                        have q13 : (ji8) < (a0.size : Int) := of_decide_eq_true (by first | (with_reducible assumption) | assumption)
                        have hx13 := bt_at a0 (ji8)
                        replace p13 := eq_true p13
                        replace q13 := eq_true q13
                        go_wp2
                        go_ret
                        exact ⟨by first | rfl | (simp; done) | (simp only [← hji8] <;> (first | rfl | simp)) | (simp [*]; done), by repeat (first | exact Drawn0.refl _ | apply Drawn0.step)⟩
                      · rw [if_neg c14] at H
                        have c14b0 : decide ((a0.size : Int) < (wrap64 (x3_1 + (wrap64 (bt a0 (ji8)))))) = false := decide_eq_false c14
                        clear c14
                        have H' := Aside0.mk H
                        clear H
                        have p4 : 0 ≤ (x3_1 : Int) := of_decide_eq_true (by first | (with_reducible assumption) | assumption)
                        have q4 : x3_1 < (a0.size : Int) := of_decide_eq_true (by first | (with_reducible assumption) | assumption)
                        have hx4 := bt_at a0 x3_1
                        replace p4 := eq_true p4
                        replace q4 := eq_true q4
                        have p11 : 0 ≤ ((ji8) : Int) := of_decide_eq_true (by first | (with_reducible assumption) | assumption)
                        have q11 : (ji8) < (a0.size : Int) := of_decide_eq_true (by first | (with_reducible assumption) | assumption)
                        have hx11 := bt_at a0 (ji8)
                        replace p11 := eq_true p11
                        replace q11 := eq_true q11
                        have p13 : 0 ≤ ((ji8) : Int) := of_decide_eq_true (by first | (with_reducible assumption) | assumption)
                        have q13 : (ji8) < (a0.size : Int) := of_decide_eq_true (by first | (with_reducible assumption) | assumption)
                        have hx13 := bt_at a0 (ji8)
                        replace p13 := eq_true p13
                        replace q13 := eq_true q13
                        have p15 : 0 ≤ ((ji8) : Int) := of_decide_eq_true (by first | (with_reducible assumption) | assumption)
                        have q15 : (ji8) < (a0.size : Int) := of_decide_eq_true (by first | (with_reducible assumption) | assumption)
                        have hx15 := bt_at a0 (ji8)
                        replace p15 := eq_true p15
                        replace q15 := eq_true q15
                        go_wp2
                        go_roundg k1
                        case measure => have := HK1.out; omega
                        case rel => exact ⟨(wrap64 (x3_1 + (wrap64 (bt a0 (ji8))))), (by first | rfl | (simp; done) | (congr 2; simp only [ByteArray.size_extract, ByteArray.size_append]; (try unfold wrap64); omega) | (simp only [ByteArray.size_extract, ByteArray.size_append, Nat.sub_zero]; done) | (congr 1; simp only [ByteArray.size_extract, ByteArray.size_append, Nat.sub_zero]; omega) | (simp only [← hji8] <;> (first | rfl | simp)) | (simp [*]; done)), H', ⟨by have := HK1.out; omega⟩, by repeat (first | exact Drawn0.refl _ | apply Drawn0.step)⟩
                  · rw [if_neg c10] at H
                    exact absurd H (by simp)
                · rw [if_neg c9] at H
                  exact absurd H (by simp)
        · rw [if_neg c3] at H
          exact absurd H (by simp)
      · rw [if_neg c2] at H
        have c2b0 : decide (x3_1 < (a0.size : Int)) = false := decide_eq_false c2
        clear c2
        obtain rfl := Option.some.inj H
        go_wp2
        go_ret
        exact ⟨by first | rfl | (simp; done) | (simp [*]; done), by repeat (first | exact Drawn0.refl _ | apply Drawn0.step)⟩

theorem r4_bt {s : ByteArray} {i : Nat} (h : i < (bl s).length) : bt s (i : Int) = (((bl s)[i]'h).toNat : Int) := by
  have h' : ((i : Int)).toNat < s.size := by rw [← bl_length]; omega
  unfold bt; rw [dif_pos h']; rfl
theorem r4_wrap {n : Int} (h0 : -9223372036854775808 ≤ n) (h1 : n ≤ 9223372036854775807) : wrap64 n = n := by unfold wrap64; omega
def weighbridgeref04_OptsRight.f (a0 : ByteArray) : Option Bool := if a0.size ≤ 140737488355328 then some (Sp.optsOk (bl a0)) else none
theorem weighbridgeref04_OptsRight_eq {a0 : ByteArray} (h : a0.size ≤ 140737488355328) : weighbridgeref04_OptsRight.f a0 = some (Sp.optsOk (bl a0)) := by unfold weighbridgeref04_OptsRight.f; exact if_pos h
theorem r4_opts_end (s : ByteArray) (k : Nat) : weighbridgeref04_OptsRight_p.l0 (k + 1) s (s.size : Int) = some (Sp.optsOk ((bl s).drop s.size)) := by
  rw [weighbridgeref04_OptsRight_p.l0, if_neg (by omega), List.drop_eq_nil_of_le (by rw [bl_length]; exact Nat.le_refl _)]; rfl
theorem r4_opts_loop (s : ByteArray) (hs : s.size ≤ 140737488355328) : ∀ (n i : Nat), s.size - i ≤ n → i ≤ s.size → ∀ k, n + 1 ≤ k → weighbridgeref04_OptsRight_p.l0 k s (i : Int) = some (Sp.optsOk ((bl s).drop i)) := by
  intro n
  induction n with
  | zero =>
    intro i h1 h2 k hk
    obtain ⟨k, rfl⟩ : ∃ k', k = k' + 1 := ⟨k - 1, by omega⟩
    obtain rfl : i = s.size := by omega
    exact r4_opts_end s k
  | succ n ih =>
    intro i h1 h2 k hk
    obtain ⟨k, rfl⟩ : ∃ k', k = k' + 1 := ⟨k - 1, by omega⟩
    by_cases hi : i = s.size
    · subst hi; exact r4_opts_end s k
    · have hl : i < (bl s).length := by rw [bl_length]; omega
      have hb := r4_bt hl
      have hx := ((bl s)[i]'hl).toNat_lt
      rw [weighbridgeref04_OptsRight_p.l0, if_pos (by omega), if_pos (by omega), Sp.opts_at _ _ hl]
      by_cases h0 : (bl s)[i] = 0
      · have e : bt s (i : Int) = 0 := by rw [hb, h0]; rfl
        rw [if_pos h0, if_pos e]
      · have e : bt s (i : Int) ≠ 0 := by
          rw [hb]; intro h; exact h0 (UInt8.toNat_inj.1 (by show _ = 0; omega))
        rw [if_neg h0, if_neg e]
        by_cases h3 : (bl s)[i] = 1
        · have e1 : bt s (i : Int) = 1 := by rw [hb, h3]; rfl
          rw [if_pos h3, if_pos e1, r4_wrap (by omega) (by omega)]
          have := ih (i + 1) (by omega) (by omega) k (by omega)
          rwa [show (((i + 1 : Nat)) : Int) = (i : Int) + 1 by omega] at this
        · have e1 : ¬ bt s (i : Int) = 1 := by
            rw [hb]; intro h; exact h3 (UInt8.toNat_inj.1 (by show _ = 1; omega))
          rw [if_neg h3, if_neg e1, r4_wrap (n := (i : Int) + 1) (by omega) (by omega)]
          by_cases h4 : i + 1 < (bl s).length
          · have g : bt s ((i : Int) + 1) = (((bl s)[i + 1]'h4).toNat : Int) := by
              have := r4_bt h4
              rwa [show (((i + 1 : Nat)) : Int) = (i : Int) + 1 by omega] at this
            have hy := ((bl s)[i + 1]'h4).toNat_lt
            have h4' := h4
            rw [bl_length] at h4'
            have ih2 : ∀ y : Nat, 2 ≤ y → i + y ≤ s.size → weighbridgeref04_OptsRight_p.l0 k s ((i : Int) + (y : Int)) = some (Sp.optsOk ((bl s).drop (i + y))) := fun y y2 hy2 => by
              have := ih (i + y) (by omega) (by omega) k (by omega)
              rwa [show (((i + y : Nat)) : Int) = (i : Int) + (y : Int) by omega] at this
            have hln := bl_length s
            rw [dif_pos h4, if_neg (by omega), if_pos (by omega), if_pos (by omega), g]
            clear g ih
            revert hy
            generalize UInt8.toNat _ = y
            intro hy
            by_cases h5 : y < 2
            · rw [if_pos (by omega), if_pos (Or.inl h5)]
            · rw [if_neg (by omega), r4_wrap (n := (y : Int)) (by omega) (by omega), r4_wrap (n := (i : Int) + (y : Int)) (by omega) (by omega)]
              by_cases h6 : i + y > s.size
              · rw [if_pos (by omega), if_pos (Or.inr (by omega))]
              · rw [if_neg (by omega), if_neg (by omega)]
                exact ih2 y (by omega) (by omega)
          · rw [bl_length] at h4
            rw [dif_neg (by rw [bl_length]; exact h4), if_pos (by omega)]
theorem weighbridgeref04_OptsRight_ev (a0 : ByteArray) (r : Bool) (h : weighbridgeref04_OptsRight.f a0 = some r) : ∃ k, weighbridgeref04_OptsRight_p.f k a0 = some r := by
  unfold weighbridgeref04_OptsRight.f at h
  split at h
  case isFalse => cases h
  case isTrue hs =>
    refine ⟨a0.size + 1, ?_⟩
    rw [← h]
    unfold weighbridgeref04_OptsRight_p.f
    exact r4_opts_loop a0 hs a0.size 0 (by omega) (by omega) _ (by omega)
theorem weighbridgeref04_OptsRight.calls (a0 : ByteArray) (r : Bool) (w : World) (h : weighbridgeref04_OptsRight.f a0 = some r) :
    Calls Try.prog 17 #[.string a0] w fun e w' => e = .returned (.bool r) ∧ Drawn0 w w' := by
  obtain ⟨k, hk⟩ := weighbridgeref04_OptsRight_ev a0 _ h
  exact weighbridgeref04_OptsRight_p.calls k a0 r w hk

/-! ### weighbridgeref04_Num_p: function 28 -/
def weighbridgeref04_Num_p.f (a0 : Int) (a1 : Int) : Option (ByteArray) := (weighbridgeref01_Put.f a0 a1).bind fun bt147 => (some bt147.1)
set_option maxHeartbeats 8000000 in
set_option maxRecDepth 100000 in
theorem weighbridgeref04_Num_p.calls (a0 : Int) (a1 : Int) (r : ByteArray) (w : World) (h : weighbridgeref04_Num_p.f a0 a1 = some r) :
    Calls Try.prog 28 #[.int .i64 a0, .int .i64 a1] w fun e w' => e = .returned (.string r) ∧ Below w.heap.size w w' := by
  have HB := Aside0.mk (Below.refl w.heap.size w)
  have H : ((weighbridgeref01_Put.f a0 a1).bind fun bt147 => (some bt147.1)) = some r := h
  clear h
  replace H := Option.bind_eq_some_iff.mp H
  obtain ⟨⟨t147, t148⟩, A30, H⟩ := H
  replace H : (some t147) = some r := H
  have A3 := Aside0.mk A30
  clear A30
  obtain rfl := Option.some.inj H
  go_enter Try.func28, Try.ntmps28
  go_wp2_with (first | ((with_reducible refine gate_callee (f := 32) rfl ?_); refine goesL_ (some 10) rfl rfl Try.func32 (by kernel_rfl) rfl #[.int .i64 a0, .int .i64 a1] rfl (by (try simp only [List.map_toArray, List.map_cons, List.map_nil]); first | done | rfl | (simp only [List.length_drop, List.length_take]; rfl)) ?_; (with_reducible refine (weighbridgeref01_Put.calls a0 a1 t147 t148 _ A3.out).mono ?_); rintro e w4 ⟨rfl, hb⟩; (try clear A3); refine ⟨_, rfl, ?_⟩; have n0_ := Aside0.mk (below_step (by repeat (first | (with_reducible first | exact HB.out | apply below_alloc | apply pw_below_drewN | apply below_drew1) | exact HB.out)) hb); clear HB; have HB := n0_; clear n0_; (try clear hb); (try clear hb2); (try clear hk); (try clear hi)))
  go_ret
  exact ⟨by first | rfl | (simp [errW_none, errW_some] <;> rfl) | (simp [*, errW_none, errW_some] <;> rfl), by repeat (first | (with_reducible first | exact HB.out | apply below_alloc | apply pw_below_drewN | apply below_drew1) | exact HB.out)⟩

def i64b (n : Int) : Bool := decide (-9223372036854775808 ≤ n ∧ n ≤ 9223372036854775807)
def weighbridgeref04_Num.f (a0 a1 : Int) : Option ByteArray := if i64b a1 = true then some (lb (Sp.put a0 a1).1) else none
theorem weighbridgeref04_Num_eq {a0 a1 : Int} (h0 : -9223372036854775808 ≤ a1) (h1 : a1 ≤ 9223372036854775807) : weighbridgeref04_Num.f a0 a1 = some (lb (Sp.put a0 a1).1) := by
  unfold weighbridgeref04_Num.f; exact if_pos (decide_eq_true ⟨h0, h1⟩)
theorem weighbridgeref04_Num_yes {a0 a1 : Int} (h : Sp.fits a0 a1 = true) : weighbridgeref04_Num.f a0 a1 = some (lb (Sp.beBytes a0.toNat a1)) := by
  have hf := Sp.fits_iff.1 h
  have hp : (256 : Int) ^ a0.toNat ≤ 4294967296 := by
    rcases (by omega : a0.toNat = 1 ∨ a0.toNat = 2 ∨ a0.toNat = 3 ∨ a0.toNat = 4) with e | e | e | e <;> rw [e] <;> decide
  rw [weighbridgeref04_Num_eq (by omega) (by omega), Sp.put_yes h]
theorem weighbridgeref04_Num_ev (a0 a1 : Int) (r : ByteArray) (h : weighbridgeref04_Num.f a0 a1 = some r) : weighbridgeref04_Num_p.f a0 a1 = some r := by
  unfold weighbridgeref04_Num.f at h
  split at h
  case isFalse => cases h
  case isTrue hs =>
    have hs := of_decide_eq_true hs
    unfold weighbridgeref04_Num_p.f
    rw [weighbridgeref01_Put_eq _ _ hs.1 hs.2, Option.bind_some]
    exact h
theorem weighbridgeref04_Num.calls (a0 : Int) (a1 : Int) (r : ByteArray) (w : World) (h : weighbridgeref04_Num.f a0 a1 = some r) :
    Calls Try.prog 28 #[.int .i64 a0, .int .i64 a1] w fun e w' => e = .returned (.string r) ∧ Below w.heap.size w w' := by
  have hk := weighbridgeref04_Num_ev a0 a1 _ h
  exact weighbridgeref04_Num_p.calls a0 a1 r w hk

end Go.Proofs.Ytlhpfoibohiggaa.Pr
