-- Written by a program of the session (wip/tools) out of the translation, over the kit's print; with pieces of the session's own.
import Derived.Test.YtlhpfoibohiggaaPr0
import Derived.Test.YtlhpfoibohiggaaPr4
import Derived.Test.YtlhpfoibohiggaaPr5
namespace Go.Proofs.Ytlhpfoibohiggaa.Pr
open Go.RowKit Go.Proofs.YtlhpfoibohiggaaW.PrintWords Go.Proofs.YtlhpfoibohiggaaW.PrintLast Go.Proofs.YtlhpfoibohiggaaW.PrintMore
attribute [local go_sem] max2_int min2_int max_two min_two max_three min_three max_four min_four   -- for this text's walks alone
set_option linter.unusedVariables false
set_option linter.unusedSimpArgs false
open Go.Proofs.Ytlhpfoibohiggaa.Sp
/-! ### weighbridgelaw05_TcpNames: function 6 -/
def weighbridgelaw05_TcpNames.l0 : Nat → Int → Bool → Int → ByteArray → Int → Int → Option (Bool)
  | 0, _, _, _, _, _, _ => none
  | k + 1, x1, x5, x6, x7, x8, x9 => if x9 < 6 then (if 0 ≤ x9 then (if (Int.tmod (shr .i64 x6 x9) 2) = 1 then (if x8 ≥ (x7.size : Int) then (some false) else (if 0 ≤ x8 then (if x8 < (x7.size : Int) then (if (bt x7 x8) = (bt (⟨#[70, 83, 82, 80, 65, 85]⟩ : ByteArray) x9) then (weighbridgelaw05_TcpNames.l0 k x1 x5 x6 x7 (wrap64 (x8 + 1)) (wrap64 (x9 + 1))) else (some false)) else (none)) else (none))) else (weighbridgelaw05_TcpNames.l0 k x1 x5 x6 x7 x8 (wrap64 (x9 + 1)))) else (none)) else (if x5 = true then (if x8 = (x7.size : Int) then ((tcp_Name.f (Go.bits .or .i64 x6 (wrap64 (x1 * 64)))).bind fun t339 => (some (t339.toList == x7.toList))) else (some false)) else (some false))
def weighbridgelaw05_TcpNames.f (k : Nat) (a0 : Int) (a1 : Int) : Option (Bool) := (weighbridgelaw05_examples.f).bind fun t337 => (if t337 = true then ((tcp_Name.f (wrap64 (Int.tmod a0 64))).bind fun t338 => (weighbridgelaw05_TcpNames.l0 k a1 t337 (wrap64 (Int.tmod a0 64)) t338 0 0)) else (some false))
theorem weighbridgelaw05_TcpNames.mono_l : ∀ k, (∀ y0 y1 y2 y3 y4 y5, LeO (weighbridgelaw05_TcpNames.l0 k y0 y1 y2 y3 y4 y5) (weighbridgelaw05_TcpNames.l0 (k + 1) y0 y1 y2 y3 y4 y5))
  | 0 => fun _ _ _ _ _ _ r h => by simp [weighbridgelaw05_TcpNames.l0] at h
  | k + 1 => by
    have ih0 := weighbridgelaw05_TcpNames.mono_l k
    · intro y0 y1 y2 y3 y4 y5
      unfold weighbridgelaw05_TcpNames.l0
      repeat' first
      | (with_reducible exact ih0 _ _ _ _ _ _)
      | (with_reducible exact LeO.refl _)
      | (with_reducible exact LeO.none _)
      | (with_reducible refine LeO.ite ?_ ?_)
      | (with_reducible refine LeO.bind ?_ (fun _ => ?_))
      | exact ih0 _ _ _ _ _ _
      | exact LeO.none _
      | refine LeO.ite ?_ ?_
      | refine LeO.bind ?_ (fun _ => ?_)
theorem weighbridgelaw05_TcpNames.mono : ∀ a0 a1 k, LeO (weighbridgelaw05_TcpNames.f k a0 a1) (weighbridgelaw05_TcpNames.f (k + 1) a0 a1) := by
  intro a0 a1 k
  have ih0 := weighbridgelaw05_TcpNames.mono_l k
  unfold weighbridgelaw05_TcpNames.f
  repeat' first
      | (with_reducible exact ih0 _ _ _ _ _ _)
      | (with_reducible exact LeO.refl _)
      | (with_reducible exact LeO.none _)
      | (with_reducible refine LeO.ite ?_ ?_)
      | (with_reducible refine LeO.bind ?_ (fun _ => ?_))
      | exact ih0 _ _ _ _ _ _
      | exact LeO.none _
      | refine LeO.ite ?_ ?_
      | refine LeO.bind ?_ (fun _ => ?_)
set_option maxHeartbeats 8000000 in
set_option maxRecDepth 100000 in
theorem weighbridgelaw05_TcpNames.calls (k : Nat) (a0 : Int) (a1 : Int) (r : Bool) (w : World) (h : weighbridgelaw05_TcpNames.f k a0 a1 = some r) (hr_ : r = true) :
    Calls Try.prog 6 #[.int .u8 a0, .int .i64 a1] w fun e w' => e = .returned (.bool r) ∧ Below w.heap.size w w' := by
  have HB := Aside0.mk (Below.refl w.heap.size w)
  have H : ((weighbridgelaw05_examples.f).bind fun t337 => (if t337 = true then ((tcp_Name.f (wrap64 (Int.tmod a0 64))).bind fun t338 => (weighbridgelaw05_TcpNames.l0 k a1 t337 (wrap64 (Int.tmod a0 64)) t338 0 0)) else (some false))) = some r := h
  clear h
  replace H := Option.bind_eq_some_iff.mp H
  obtain ⟨t337, A30, H⟩ := H
  replace H : (if t337 = true then ((tcp_Name.f (wrap64 (Int.tmod a0 64))).bind fun t338 => (weighbridgelaw05_TcpNames.l0 k a1 t337 (wrap64 (Int.tmod a0 64)) t338 0 0)) else (some false)) = some r := H
  have A3 := Aside0.mk A30
  clear A30
  by_cases c4 : t337 = true
  · subst c4
    have H1 : ((tcp_Name.f (wrap64 (Int.tmod a0 64))).bind fun t338 => (weighbridgelaw05_TcpNames.l0 k a1 true (wrap64 (Int.tmod a0 64)) t338 0 0)) = some r := by first | (rw [if_pos rfl] at H; exact H) | (rw [if_pos trivial] at H; exact H)
    clear H
    have H := H1
    clear H1
    replace H := Option.bind_eq_some_iff.mp H
    obtain ⟨t338, A50, H⟩ := H
    replace H : (weighbridgelaw05_TcpNames.l0 k a1 true (wrap64 (Int.tmod a0 64)) t338 0 0) = some r := H
    have A5 := Aside0.mk A50
    clear A50
    have H' := Aside0.mk H
    clear H
    go_enter Try.func6, Try.ntmps6
    go_wp2_with (first | (go_at_call 10; (with_reducible refine (weighbridgelaw05_examples.calls  true _ A3.out).mono ?_); rintro e w6 ⟨rfl, hb⟩; (try clear A3); have n0_ := Aside0.mk (below_step (by repeat (first | (with_reducible first | exact HB.out | apply below_alloc | apply pw_below_drewN | apply below_drew1) | exact HB.out)) hb); clear HB; have HB := n0_; clear n0_; (try clear hb); (try clear hb2); (try clear hk); (try clear hi)) | (go_at_call 18; (with_reducible refine (tcp_Name.calls (wrap64 (Int.tmod a0 64)) t338 _ A5.out).mono ?_); rintro e w7 ⟨rfl, hb⟩; (try clear A5); have n0_ := Aside0.mk (below_step (by repeat (first | (with_reducible first | exact HB.out | apply below_alloc | apply pw_below_drewN | apply below_drew1) | exact HB.out)) hb); clear HB; have HB := n0_; clear n0_; (try clear hb); (try clear hb2); (try clear hk); (try clear hi)))
    repeat (go_quiet (first | (go_at_call 10; (with_reducible refine (weighbridgelaw05_examples.calls  true _ A3.out).mono ?_); rintro e w6 ⟨rfl, hb⟩; (try clear A3); have n0_ := Aside0.mk (below_step (by repeat (first | (with_reducible first | exact HB.out | apply below_alloc | apply pw_below_drewN | apply below_drew1) | exact HB.out)) hb); clear HB; have HB := n0_; clear n0_; (try clear hb); (try clear hb2); (try clear hk); (try clear hi)) | (go_at_call 18; (with_reducible refine (tcp_Name.calls (wrap64 (Int.tmod a0 64)) t338 _ A5.out).mono ?_); rintro e w7 ⟨rfl, hb⟩; (try clear A5); have n0_ := Aside0.mk (below_step (by repeat (first | (with_reducible first | exact HB.out | apply below_alloc | apply pw_below_drewN | apply below_drew1) | exact HB.out)) hb); clear HB; have HB := n0_; clear n0_; (try clear hb); (try clear hb2); (try clear hk); (try clear hi))); try go_wp2_with (first | (go_at_call 10; (with_reducible refine (weighbridgelaw05_examples.calls  true _ A3.out).mono ?_); rintro e w6 ⟨rfl, hb⟩; (try clear A3); have n0_ := Aside0.mk (below_step (by repeat (first | (with_reducible first | exact HB.out | apply below_alloc | apply pw_below_drewN | apply below_drew1) | exact HB.out)) hb); clear HB; have HB := n0_; clear n0_; (try clear hb); (try clear hb2); (try clear hk); (try clear hi)) | (go_at_call 18; (with_reducible refine (tcp_Name.calls (wrap64 (Int.tmod a0 64)) t338 _ A5.out).mono ?_); rintro e w7 ⟨rfl, hb⟩; (try clear A5); have n0_ := Aside0.mk (below_step (by repeat (first | (with_reducible first | exact HB.out | apply below_alloc | apply pw_below_drewN | apply below_drew1) | exact HB.out)) hb); clear HB; have HB := n0_; clear n0_; (try clear hb); (try clear hb2); (try clear hk); (try clear hi))))
    go_loopg [8, 9] k (fun kq v8 v9 w' => ∃ (x8_1 : Int) (x9_1 : Int), v8 = .int .i64 x8_1 ∧ v9 = .int .i64 x9_1 ∧ Aside0 (weighbridgelaw05_TcpNames.l0 kq a1 true (wrap64 (Int.tmod a0 64)) t338 x8_1 x9_1 = some r) ∧ Aside0 (kq ≤ k) ∧ Aside0 (Below w.heap.size w w'))
    case atStart => exact ⟨(0), (0), (by first | rfl | (simp; done) | (simp [*]; done)), (by first | rfl | (simp; done) | (simp [*]; done)), H', ⟨Nat.le_refl _⟩, ⟨by repeat (first | (with_reducible first | exact HB.out | apply below_alloc | apply pw_below_drewN | apply below_drew1) | exact HB.out)⟩⟩
    case round =>
      clear H'
      try clear p2
      try clear c4
      try clear c6
      try clear p6
      obtain ⟨x8_1, x9_1, rfl, rfl, HA, HK1, HB⟩ := hrel
      cases gk with
      | zero => exact absurd HA.out (by simp [weighbridgelaw05_TcpNames.l0])
      | succ k1 =>
        have H := HA.out
        clear HA
        simp only [weighbridgelaw05_TcpNames.l0] at H
        by_cases c8 : x9_1 < 6
        · rw [if_pos c8] at H
          have c8b0 : decide (x9_1 < 6) = true := decide_eq_true c8
          clear c8
          by_cases c9 : 0 ≤ x9_1
          · rw [if_pos c9] at H
            have c9b0 := eq_true c9
            have c9b1 : decide (0 ≤ x9_1) = true := decide_eq_true c9
            clear c9
            obtain ⟨ji10, hji10⟩ : ∃ j_ : Int, (shr .i64 (wrap64 (Int.tmod a0 64)) x9_1) = j_ := ⟨_, rfl⟩
            replace H : (if (Int.tmod (ji10) 2) = 1 then (if x8_1 ≥ (t338.size : Int) then (some false) else (if 0 ≤ x8_1 then (if x8_1 < (t338.size : Int) then (if (bt t338 x8_1) = (bt (⟨#[70, 83, 82, 80, 65, 85]⟩ : ByteArray) x9_1) then (weighbridgelaw05_TcpNames.l0 k1 a1 true (wrap64 (Int.tmod a0 64)) t338 (wrap64 (x8_1 + 1)) (wrap64 (x9_1 + 1))) else (some false)) else (none)) else (none))) else (weighbridgelaw05_TcpNames.l0 k1 a1 true (wrap64 (Int.tmod a0 64)) t338 x8_1 (wrap64 (x9_1 + 1)))) = some r := by first | (rw [hji10] at H; exact H) | (simp only [hji10] at H ⊢; exact H)
            have hji10_ : ((wrap64 (Int.tmod a0 64)) / 2 ^ min x9_1.toNat 64) = ji10 := hji10
            have hji10z : x9_1 ≤ 64 → ((wrap64 (Int.tmod a0 64)) / 2 ^ x9_1.toNat) = ji10 := shr_small hji10
            by_cases c11 : (Int.tmod (ji10) 2) = 1
            · rw [if_pos c11] at H
              have c11b0 : ((Int.tmod (ji10) 2) == 1) = true := beq_iff_eq.mpr c11
              have c11b1 : ((Int.tmod (ji10) 2) != 1) = false := bne_eq_false_iff_eq.mpr c11
              clear c11
              by_cases c12 : x8_1 ≥ (t338.size : Int)
              · rw [if_pos c12] at H
                have c12b0 : decide ((t338.size : Int) ≤ x8_1) = true := decide_eq_true c12
                clear c12
                exact absurd ((Option.some.inj H).trans hr_) (by decide)
              · rw [if_neg c12] at H
                have c12b0 : decide ((t338.size : Int) ≤ x8_1) = false := decide_eq_false c12
                clear c12
                by_cases c13 : 0 ≤ x8_1
                · rw [if_pos c13] at H
                  have c13b0 : decide (0 ≤ x8_1) = true := decide_eq_true c13
                  clear c13
                  by_cases c14 : x8_1 < (t338.size : Int)
                  · rw [if_pos c14] at H
                    have c14b0 : decide (x8_1 < (t338.size : Int)) = true := decide_eq_true c14
                    clear c14
                    by_cases c17 : (bt t338 x8_1) = (bt (⟨#[70, 83, 82, 80, 65, 85]⟩ : ByteArray) x9_1)
                    · rw [if_pos c17] at H
                      have c17b0 : ((bt t338 x8_1) == (bt (⟨#[70, 83, 82, 80, 65, 85]⟩ : ByteArray) x9_1)) = true := beq_iff_eq.mpr c17
                      have c17b1 : ((bt t338 x8_1) != (bt (⟨#[70, 83, 82, 80, 65, 85]⟩ : ByteArray) x9_1)) = false := bne_eq_false_iff_eq.mpr c17
                      clear c17
                      have H' := Aside0.mk H
                      clear H
                      have p15 : 0 ≤ (x8_1 : Int) := of_decide_eq_true (by first | (with_reducible assumption) | assumption)
                      have q15 : x8_1 < (t338.size : Int) := of_decide_eq_true (by first | (with_reducible assumption) | assumption)
                      have hx15 := bt_at t338 x8_1
                      replace p15 := eq_true p15
                      replace q15 := eq_true q15
                      have p16 : 0 ≤ (x9_1 : Int) := of_decide_eq_true (by first | (with_reducible assumption) | assumption)
                      have q16 : x9_1 < (6 : Int) := of_decide_eq_true (by first | (with_reducible assumption) | assumption)
                      have hx16 := bt_at (⟨#[70, 83, 82, 80, 65, 85]⟩ : ByteArray) x9_1
                      replace p16 := eq_true p16
                      replace q16 := eq_true q16
                      go_wp2
                      repeat (go_quiet (fail); try go_wp2)
                      go_roundg k1
                      case measure => have := HK1.out; omega
                      case rel => exact ⟨(wrap64 (x8_1 + 1)), (wrap64 (x9_1 + 1)), (by first | rfl | (simp; done) | (congr 2; simp only [ByteArray.size_extract, ByteArray.size_append]; (try have := of_eq_true c9b0); (try unfold wrap64); omega) | (simp only [ByteArray.size_extract, ByteArray.size_append, Nat.sub_zero]; done) | (congr 1; simp only [ByteArray.size_extract, ByteArray.size_append, Nat.sub_zero]; (try have := of_eq_true c9b0); omega) | (simp [*]; done)), (by first | rfl | (simp; done) | (congr 2; simp only [ByteArray.size_extract, ByteArray.size_append]; (try have := of_eq_true c9b0); (try unfold wrap64); omega) | (simp only [ByteArray.size_extract, ByteArray.size_append, Nat.sub_zero]; done) | (congr 1; simp only [ByteArray.size_extract, ByteArray.size_append, Nat.sub_zero]; (try have := of_eq_true c9b0); omega) | (simp [*]; done)), H', ⟨by have := HK1.out; omega⟩, ⟨by repeat (first | (with_reducible first | exact HB.out | apply below_alloc | apply pw_below_drewN | apply below_drew1) | exact HB.out)⟩⟩
                    · rw [if_neg c17] at H
                      have c17b0 : ((bt t338 x8_1) == (bt (⟨#[70, 83, 82, 80, 65, 85]⟩ : ByteArray) x9_1)) = false := beq_eq_false_iff_ne.mpr c17
                      have c17b1 : ((bt t338 x8_1) != (bt (⟨#[70, 83, 82, 80, 65, 85]⟩ : ByteArray) x9_1)) = true := bne_iff_ne.mpr c17
                      exact absurd ((Option.some.inj H).trans hr_) (by decide)
                  · rw [if_neg c14] at H
                    exact absurd H (by simp)
                · rw [if_neg c13] at H
                  exact absurd H (by simp)
            · rw [if_neg c11] at H
              have c11b0 : ((Int.tmod (ji10) 2) == 1) = false := beq_eq_false_iff_ne.mpr c11
              have c11b1 : ((Int.tmod (ji10) 2) != 1) = true := bne_iff_ne.mpr c11
              have H' := Aside0.mk H
              clear H
              go_wp2
              repeat (go_quiet (fail); try go_wp2)
              go_roundg k1
              case measure => have := HK1.out; omega
              case rel => exact ⟨(x8_1), (wrap64 (x9_1 + 1)), (by first | rfl | (simp; done) | (congr 2; simp only [ByteArray.size_extract, ByteArray.size_append]; (try have := of_eq_true c9b0); (try unfold wrap64); omega) | (simp only [ByteArray.size_extract, ByteArray.size_append, Nat.sub_zero]; done) | (congr 1; simp only [ByteArray.size_extract, ByteArray.size_append, Nat.sub_zero]; (try have := of_eq_true c9b0); omega) | (simp [*]; done)), (by first | rfl | (simp; done) | (congr 2; simp only [ByteArray.size_extract, ByteArray.size_append]; (try have := of_eq_true c9b0); (try unfold wrap64); omega) | (simp only [ByteArray.size_extract, ByteArray.size_append, Nat.sub_zero]; done) | (congr 1; simp only [ByteArray.size_extract, ByteArray.size_append, Nat.sub_zero]; (try have := of_eq_true c9b0); omega) | (simp [*]; done)), H', ⟨by have := HK1.out; omega⟩, ⟨by repeat (first | (with_reducible first | exact HB.out | apply below_alloc | apply pw_below_drewN | apply below_drew1) | exact HB.out)⟩⟩
          · rw [if_neg c9] at H
            exact absurd H (by simp)
        · rw [if_neg c8] at H
          have c8b0 : decide (x9_1 < 6) = false := decide_eq_false c8
          clear c8
          have c18 : true = true := rfl
          · clear c18
            have H1 : (if x8_1 = (t338.size : Int) then ((tcp_Name.f (Go.bits .or .i64 (wrap64 (Int.tmod a0 64)) (wrap64 (a1 * 64)))).bind fun t339 => (some (t339.toList == t338.toList))) else (some false)) = some r := by first | (rw [if_pos rfl] at H; exact H) | (rw [if_pos trivial] at H; exact H)
            clear H
            have H := H1
            clear H1
            by_cases c19 : x8_1 = (t338.size : Int)
            · rw [if_pos c19] at H
              have c19b0 : (x8_1 == (t338.size : Int)) = true := beq_iff_eq.mpr c19
              have c19b1 : (x8_1 != (t338.size : Int)) = false := bne_eq_false_iff_eq.mpr c19
              clear c19
              replace H := Option.bind_eq_some_iff.mp H
              obtain ⟨t339, A200, H⟩ := H
              replace H : (some (t339.toList == t338.toList)) = some r := H
              have A20 := Aside0.mk A200
              clear A200
              obtain rfl := Option.some.inj H
              go_wp2_with (first | (go_at_call 18; (with_reducible refine (tcp_Name.calls (Go.bits .or .i64 (wrap64 (Int.tmod a0 64)) (wrap64 (a1 * 64))) t339 _ A20.out).mono ?_); rintro e w21 ⟨rfl, hb⟩; (try clear A20); have n0_ := Aside0.mk (below_step (by repeat (first | (with_reducible first | exact HB.out | apply below_alloc | apply pw_below_drewN | apply below_drew1) | exact HB.out)) hb); clear HB; have HB := n0_; clear n0_; (try clear hb); (try clear hb2); (try clear hk); (try clear hi)))
              repeat (go_quiet (first | (go_at_call 18; (with_reducible refine (tcp_Name.calls (Go.bits .or .i64 (wrap64 (Int.tmod a0 64)) (wrap64 (a1 * 64))) t339 _ A20.out).mono ?_); rintro e w21 ⟨rfl, hb⟩; (try clear A20); have n0_ := Aside0.mk (below_step (by repeat (first | (with_reducible first | exact HB.out | apply below_alloc | apply pw_below_drewN | apply below_drew1) | exact HB.out)) hb); clear HB; have HB := n0_; clear n0_; (try clear hb); (try clear hb2); (try clear hk); (try clear hi))); try go_wp2_with (first | (go_at_call 18; (with_reducible refine (tcp_Name.calls (Go.bits .or .i64 (wrap64 (Int.tmod a0 64)) (wrap64 (a1 * 64))) t339 _ A20.out).mono ?_); rintro e w21 ⟨rfl, hb⟩; (try clear A20); have n0_ := Aside0.mk (below_step (by repeat (first | (with_reducible first | exact HB.out | apply below_alloc | apply pw_below_drewN | apply below_drew1) | exact HB.out)) hb); clear HB; have HB := n0_; clear n0_; (try clear hb); (try clear hb2); (try clear hk); (try clear hi))))
              go_ret
              exact ⟨by first | rfl | (simp [errW_none, errW_some] <;> rfl) | (simp [*, errW_none, errW_some] <;> rfl), by repeat (first | (with_reducible first | exact HB.out | apply below_alloc | apply pw_below_drewN | apply below_drew1) | exact HB.out)⟩
            · rw [if_neg c19] at H
              have c19b0 : (x8_1 == (t338.size : Int)) = false := beq_eq_false_iff_ne.mpr c19
              have c19b1 : (x8_1 != (t338.size : Int)) = true := bne_iff_ne.mpr c19
              exact absurd ((Option.some.inj H).trans hr_) (by decide)
  · replace c4 := Bool.eq_false_iff.mpr c4
    subst c4
    have H1 : (some false) = some r := by rw [if_neg (show ¬ (false = true) by decide)] at H; exact H
    clear H
    have H := H1
    clear H1
    exact absurd ((Option.some.inj H).trans hr_) (by decide)

/-- THE ONE PURE STATEMENT of weighbridgelaw05_TcpNames: yours. -/
def weighbridgelaw05_TcpNames.Pure : Prop := ∀ (a0 : Int) (a1 : Int), (Lit.int .u8 a0).wf = true → (Lit.int .i64 a1).wf = true → ∃ k, weighbridgelaw05_TcpNames.f k a0 a1 = some true
theorem weighbridgelaw05_TcpNames.walk (P : weighbridgelaw05_TcpNames.Pure) (a0 : Int) (a1 : Int) (w : World) (w0 : (Lit.int .u8 a0).wf = true) (w1 : (Lit.int .i64 a1).wf = true) :
    Calls Try.prog 6 #[.int .u8 a0, .int .i64 a1] w fun e w' => e = .returned (.bool true) ∧ Below w.heap.size w w' := by
  obtain ⟨k, h⟩ := P a0 a1 w0 w1
  refine (weighbridgelaw05_TcpNames.calls k a0 a1 true w h rfl).mono ?_
  rintro e w' ⟨rfl, hd⟩
  exact ⟨rfl, hd⟩

end Go.Proofs.Ytlhpfoibohiggaa.Pr
