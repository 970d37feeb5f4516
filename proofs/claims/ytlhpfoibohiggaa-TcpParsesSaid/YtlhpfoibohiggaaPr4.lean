-- Written by a program of the session (wip/tools) out of the translation, over the kit's print; with pieces of the session's own.
import Derived.Test.YtlhpfoibohiggaaPr0
import Derived.Test.YtlhpfoibohiggaaPr3
namespace Go.Proofs.Ytlhpfoibohiggaa.Pr
open Go.RowKit Go.Proofs.YtlhpfoibohiggaaW.PrintWords Go.Proofs.YtlhpfoibohiggaaW.PrintLast Go.Proofs.YtlhpfoibohiggaaW.PrintMore
attribute [local go_sem] max2_int min2_int max_two min_two max_three min_three max_four min_four   -- for this text's walks alone
set_option linter.unusedVariables false
set_option linter.unusedSimpArgs false
open Go.Proofs.Ytlhpfoibohiggaa.Sp
/-! ### tcp_OptsRight_p: function 16 -/
mutual
def tcp_OptsRight_p.l0 : Nat → ByteArray → Int → Option (Bool)
  | 0, _, _ => none
  | k + 1, x0, x3 => if x3 < (x0.size : Int) then (if 0 ≤ x3 then (tcp_OptsRight_p.j1 k x0 x3 ((bt x0 x3) != 0)) else (none)) else (tcp_OptsRight_p.j1 k x0 x3 false)
def tcp_OptsRight_p.j1 : Nat → ByteArray → Int → Bool → Option (Bool)
  | 0, _, _, _ => none
  | k + 1, x0, x3, x16 => if x16 = true then (if 0 ≤ x3 then (if x3 < (x0.size : Int) then (if (bt x0 x3) = 1 then (tcp_OptsRight_p.l0 k x0 (wrap64 (x3 + 1))) else ((octet_Get.f x0 (wrap64 (x3 + 1)) 1).bind fun bt101 => (if bt101.2 = true then (if bt101.1 < 2 then (some false) else (if bt101.1 > (wrap64 ((x0.size : Int) - x3)) then (some false) else (tcp_OptsRight_p.l0 k x0 (wrap64 (x3 + bt101.1))))) else (some false)))) else (none)) else (none)) else (some true)
end
def tcp_OptsRight_p.f (k : Nat) (a0 : ByteArray) : Option (Bool) := tcp_OptsRight_p.l0 k a0 0
theorem tcp_OptsRight_p.mono_l : ∀ k, (∀ y0 y1, LeO (tcp_OptsRight_p.l0 k y0 y1) (tcp_OptsRight_p.l0 (k + 1) y0 y1)) ∧ (∀ y0 y1 y2, LeO (tcp_OptsRight_p.j1 k y0 y1 y2) (tcp_OptsRight_p.j1 (k + 1) y0 y1 y2))
  | 0 => ⟨fun _ _ r h => by simp [tcp_OptsRight_p.l0] at h, fun _ _ _ r h => by simp [tcp_OptsRight_p.j1] at h⟩
  | k + 1 => by
    obtain ⟨ih0, ih1⟩ := tcp_OptsRight_p.mono_l k
    refine ⟨?_, ?_⟩
    · intro y0 y1
      unfold tcp_OptsRight_p.l0
      repeat' first
      | (with_reducible exact ih0 _ _)
      | (with_reducible exact ih1 _ _ _)
      | (with_reducible exact LeO.refl _)
      | (with_reducible exact LeO.none _)
      | (with_reducible refine LeO.ite ?_ ?_)
      | (with_reducible refine LeO.bind ?_ (fun _ => ?_))
      | exact ih0 _ _
      | exact ih1 _ _ _
      | exact LeO.none _
      | refine LeO.ite ?_ ?_
      | refine LeO.bind ?_ (fun _ => ?_)
    · intro y0 y1 y2
      unfold tcp_OptsRight_p.j1
      repeat' first
      | (with_reducible exact ih0 _ _)
      | (with_reducible exact ih1 _ _ _)
      | (with_reducible exact LeO.refl _)
      | (with_reducible exact LeO.none _)
      | (with_reducible refine LeO.ite ?_ ?_)
      | (with_reducible refine LeO.bind ?_ (fun _ => ?_))
      | exact ih0 _ _
      | exact ih1 _ _ _
      | exact LeO.none _
      | refine LeO.ite ?_ ?_
      | refine LeO.bind ?_ (fun _ => ?_)
theorem tcp_OptsRight_p.mono : ∀ a0 k, LeO (tcp_OptsRight_p.f k a0) (tcp_OptsRight_p.f (k + 1) a0) := by
  intro a0 k
  obtain ⟨ih0, ih1⟩ := tcp_OptsRight_p.mono_l k
  unfold tcp_OptsRight_p.f
  repeat' first
      | (with_reducible exact ih0 _ _)
      | (with_reducible exact ih1 _ _ _)
      | (with_reducible exact LeO.refl _)
      | (with_reducible exact LeO.none _)
      | (with_reducible refine LeO.ite ?_ ?_)
      | (with_reducible refine LeO.bind ?_ (fun _ => ?_))
      | exact ih0 _ _
      | exact ih1 _ _ _
      | exact LeO.none _
      | refine LeO.ite ?_ ?_
      | refine LeO.bind ?_ (fun _ => ?_)
set_option maxHeartbeats 8000000 in
set_option maxRecDepth 100000 in
theorem tcp_OptsRight_p.calls (k : Nat) (a0 : ByteArray) (r : Bool) (w : World) (h : tcp_OptsRight_p.f k a0 = some r) :
    Calls Try.prog 16 #[.string a0] w fun e w' => e = .returned (.bool r) ∧ Below w.heap.size w w' := by
  have HB := Aside0.mk (Below.refl w.heap.size w)
  have H : (tcp_OptsRight_p.l0 k a0 0) = some r := h
  clear h
  have H' := Aside0.mk H
  clear H
  go_enter Try.func16, Try.ntmps16
  go_wp2
  go_loopg [3] k (fun kq v3 w' => ∃ (x3_1 : Int), v3 = .int .i64 x3_1 ∧ Aside0 (tcp_OptsRight_p.l0 kq a0 x3_1 = some r) ∧ Aside0 (kq ≤ k) ∧ Aside0 (Below w.heap.size w w'))
  case atStart => exact ⟨(0), (by first | rfl | (simp; done) | (simp [*]; done)), H', ⟨Nat.le_refl _⟩, ⟨by repeat (first | (with_reducible first | exact HB.out | apply below_alloc | apply pw_below_drewN | apply below_drew1) | exact HB.out)⟩⟩
  case round =>
    clear H'
    try clear c1
    obtain ⟨x3_1, rfl, HA, HK1, HB⟩ := hrel
    cases gk with
    | zero => exact absurd HA.out (by simp [tcp_OptsRight_p.l0])
    | succ k1 =>
      have H := HA.out
      clear HA
      simp only [tcp_OptsRight_p.l0] at H
      have HC2 := Aside0.mk H
      clear H
      go_upto_region 2 with (fail)
      go_cut [16] (fun v16 wc => ∃ (kq : Nat) (x16_1 : Bool), v16 = .bool x16_1 ∧ Aside0 (tcp_OptsRight_p.j1 kq a0 x3_1 x16_1 = some r) ∧ Aside0 (kq ≤ k1) ∧ Aside0 (Below w.heap.size w wc))
      case first =>
        have H := HC2.out
        clear HC2
        by_cases c3 : x3_1 < (a0.size : Int)
        · rw [if_pos c3] at H
          have c3b0 : decide (x3_1 < (a0.size : Int)) = true := decide_eq_true c3
          clear c3
          (first | rw [c3b0] | (simp only [i64_w, i32_w]; rw [c3b0]) | skip)
          by_cases c4 : 0 ≤ x3_1
          · rw [if_pos c4] at H
            have c4b0 : decide (0 ≤ x3_1) = true := decide_eq_true c4
            clear c4
            have H' := Aside0.mk H
            clear H
            have p5 : 0 ≤ (x3_1 : Int) := of_decide_eq_true (by first | (with_reducible assumption) | assumption)
            have q5 : x3_1 < (a0.size : Int) := of_decide_eq_true (by first | (with_reducible assumption) | assumption)
            have hx5 := bt_at a0 x3_1
            replace p5 := eq_true p5
            replace q5 := eq_true q5
            go_wp2
            go_meet
            case rel => exact ⟨_, (((bt a0 x3_1) != 0)), (by first | rfl | (simp; done) | (congr 2; simp only [ByteArray.size_extract, ByteArray.size_append]; (try unfold wrap64); omega) | (simp only [ByteArray.size_extract, ByteArray.size_append, Nat.sub_zero]; done) | (congr 1; simp only [ByteArray.size_extract, ByteArray.size_append, Nat.sub_zero]; omega) | (simp [*]; done)), H', ⟨by have := HK1.out; first | omega | exact Nat.le_refl _⟩, ⟨by repeat (first | (with_reducible first | exact HB.out | apply below_alloc | apply pw_below_drewN | apply below_drew1) | exact HB.out)⟩⟩
          · rw [if_neg c4] at H
            exact absurd H (by simp)
        · rw [if_neg c3] at H
          have c3b0 : decide (x3_1 < (a0.size : Int)) = false := decide_eq_false c3
          clear c3
          (first | rw [c3b0] | (simp only [i64_w, i32_w]; rw [c3b0]) | skip)
          have H' := Aside0.mk H
          clear H
          go_wp2
          go_meet
          case rel => exact ⟨_, (false), (by first | rfl | (simp; done) | (congr 2; simp only [ByteArray.size_extract, ByteArray.size_append]; (try unfold wrap64); omega) | (simp only [ByteArray.size_extract, ByteArray.size_append, Nat.sub_zero]; done) | (congr 1; simp only [ByteArray.size_extract, ByteArray.size_append, Nat.sub_zero]; omega) | (simp [*]; done)), H', ⟨by have := HK1.out; first | omega | exact Nat.le_refl _⟩, ⟨by repeat (first | (with_reducible first | exact HB.out | apply below_alloc | apply pw_below_drewN | apply below_drew1) | exact HB.out)⟩⟩
      case rest =>
        clear HC2
        try clear c1
        try clear p2
        try clear c3
        try clear c3b0
        try clear c4
        try clear c4b0
        try clear p5
        try clear q5
        try clear hx5
        try clear p5
        try clear q5
        obtain ⟨kq, x16_1, rfl, HA, HJ1, HB⟩ := hcut
        cases kq with
        | zero => exact absurd HA.out (by simp [tcp_OptsRight_p.j1])
        | succ kj1 =>
          have H := HA.out
          clear HA
          simp only [tcp_OptsRight_p.j1] at H
          by_cases c6 : x16_1 = true
          · subst c6
            have H1 : (if 0 ≤ x3_1 then (if x3_1 < (a0.size : Int) then (if (bt a0 x3_1) = 1 then (tcp_OptsRight_p.l0 kj1 a0 (wrap64 (x3_1 + 1))) else ((octet_Get.f a0 (wrap64 (x3_1 + 1)) 1).bind fun bt101 => (if bt101.2 = true then (if bt101.1 < 2 then (some false) else (if bt101.1 > (wrap64 ((a0.size : Int) - x3_1)) then (some false) else (tcp_OptsRight_p.l0 kj1 a0 (wrap64 (x3_1 + bt101.1))))) else (some false)))) else (none)) else (none)) = some r := by first | (rw [if_pos rfl] at H; exact H) | (rw [if_pos trivial] at H; exact H)
            clear H
            have H := H1
            clear H1
            by_cases c7 : 0 ≤ x3_1
            · rw [if_pos c7] at H
              have c7b0 : decide (0 ≤ x3_1) = true := decide_eq_true c7
              clear c7
              by_cases c8 : x3_1 < (a0.size : Int)
              · rw [if_pos c8] at H
                have c8b0 : decide (x3_1 < (a0.size : Int)) = true := decide_eq_true c8
                clear c8
                by_cases c10 : (bt a0 x3_1) = 1
                · rw [if_pos c10] at H
                  have c10b0 : ((bt a0 x3_1) == 1) = true := beq_iff_eq.mpr c10
                  have c10b1 : ((bt a0 x3_1) != 1) = false := bne_eq_false_iff_eq.mpr c10
                  clear c10
                  have H' := Aside0.mk H
                  clear H
                  have p9 : 0 ≤ (x3_1 : Int) := of_decide_eq_true (by first | (with_reducible assumption) | assumption)
                  have q9 : x3_1 < (a0.size : Int) := of_decide_eq_true (by first | (with_reducible assumption) | assumption)
                  have hx9 := bt_at a0 x3_1
                  replace p9 := eq_true p9
                  replace q9 := eq_true q9
                  go_wp2
                  go_roundg kj1
                  case measure => have := HK1.out; have := HJ1.out; omega
                  case rel => exact ⟨(wrap64 (x3_1 + 1)), (by first | rfl | (simp; done) | (congr 2; simp only [ByteArray.size_extract, ByteArray.size_append]; (try unfold wrap64); omega) | (simp only [ByteArray.size_extract, ByteArray.size_append, Nat.sub_zero]; done) | (congr 1; simp only [ByteArray.size_extract, ByteArray.size_append, Nat.sub_zero]; omega) | (simp [*]; done)), H', ⟨by have := HK1.out; have := HJ1.out; omega⟩, ⟨by repeat (first | (with_reducible first | exact HB.out | apply below_alloc | apply pw_below_drewN | apply below_drew1) | exact HB.out)⟩⟩
                · rw [if_neg c10] at H
                  have c10b0 : ((bt a0 x3_1) == 1) = false := beq_eq_false_iff_ne.mpr c10
                  have c10b1 : ((bt a0 x3_1) != 1) = true := bne_iff_ne.mpr c10
                  replace H := Option.bind_eq_some_iff.mp H
                  obtain ⟨⟨t101, t102⟩, A110, H⟩ := H
                  replace H : (if t102 = true then (if t101 < 2 then (some false) else (if t101 > (wrap64 ((a0.size : Int) - x3_1)) then (some false) else (tcp_OptsRight_p.l0 kj1 a0 (wrap64 (x3_1 + t101))))) else (some false)) = some r := H
                  have A11 := Aside0.mk A110
                  clear A110
                  by_cases c12 : t102 = true
                  · subst c12
                    have H1 : (if t101 < 2 then (some false) else (if t101 > (wrap64 ((a0.size : Int) - x3_1)) then (some false) else (tcp_OptsRight_p.l0 kj1 a0 (wrap64 (x3_1 + t101))))) = some r := by first | (rw [if_pos rfl] at H; exact H) | (rw [if_pos trivial] at H; exact H)
                    clear H
                    have H := H1
                    clear H1
                    by_cases c13 : t101 < 2
                    · rw [if_pos c13] at H
                      have c13b0 : decide (t101 < 2) = true := decide_eq_true c13
                      clear c13
                      obtain rfl := Option.some.inj H
                      have p9 : 0 ≤ (x3_1 : Int) := of_decide_eq_true (by first | (with_reducible assumption) | assumption)
                      have q9 : x3_1 < (a0.size : Int) := of_decide_eq_true (by first | (with_reducible assumption) | assumption)
                      have hx9 := bt_at a0 x3_1
                      replace p9 := eq_true p9
                      replace q9 := eq_true q9
                      go_wp2_with (first | ((with_reducible refine gate_callee (f := 26) rfl ?_); refine goesL_ (some 25) rfl rfl Try.func26 (by kernel_rfl) rfl #[.string a0, .int .i64 (wrap64 (x3_1 + 1)), .int .i64 1] rfl (by (try simp only [List.map_toArray, List.map_cons, List.map_nil]); first | done | rfl | (simp only [List.length_drop, List.length_take]; rfl)) ?_; (with_reducible refine (octet_Get.calls a0 (wrap64 (x3_1 + 1)) 1 t101 true _ A11.out).mono ?_); rintro e w14 ⟨rfl, hb⟩; (try clear A11); refine ⟨_, rfl, ?_⟩; have n0_ := Aside0.mk (below_step (by repeat (first | (with_reducible first | exact HB.out | apply below_alloc | apply pw_below_drewN | apply below_drew1) | exact HB.out)) hb); clear HB; have HB := n0_; clear n0_; (try clear hb); (try clear hb2); (try clear hk); (try clear hi)))
                      go_ret
                      exact ⟨by first | rfl | (simp [errW_none, errW_some] <;> rfl) | (simp [*, errW_none, errW_some] <;> rfl), by repeat (first | (with_reducible first | exact HB.out | apply below_alloc | apply pw_below_drewN | apply below_drew1) | exact HB.out)⟩
                    · rw [if_neg c13] at H
                      have c13b0 : decide (t101 < 2) = false := decide_eq_false c13
                      clear c13
                      by_cases c15 : t101 > (wrap64 ((a0.size : Int) - x3_1))
                      · rw [if_pos c15] at H
                        have c15b0 : decide ((wrap64 ((a0.size : Int) - x3_1)) < t101) = true := decide_eq_true c15
                        clear c15
                        obtain rfl := Option.some.inj H
                        have p9 : 0 ≤ (x3_1 : Int) := of_decide_eq_true (by first | (with_reducible assumption) | assumption)
                        have q9 : x3_1 < (a0.size : Int) := of_decide_eq_true (by first | (with_reducible assumption) | assumption)
                        have hx9 := bt_at a0 x3_1
                        replace p9 := eq_true p9
                        replace q9 := eq_true q9
                        go_wp2_with (first | ((with_reducible refine gate_callee (f := 26) rfl ?_); refine goesL_ (some 25) rfl rfl Try.func26 (by kernel_rfl) rfl #[.string a0, .int .i64 (wrap64 (x3_1 + 1)), .int .i64 1] rfl (by (try simp only [List.map_toArray, List.map_cons, List.map_nil]); first | done | rfl | (simp only [List.length_drop, List.length_take]; rfl)) ?_; (with_reducible refine (octet_Get.calls a0 (wrap64 (x3_1 + 1)) 1 t101 true _ A11.out).mono ?_); rintro e w16 ⟨rfl, hb⟩; (try clear A11); refine ⟨_, rfl, ?_⟩; have n0_ := Aside0.mk (below_step (by repeat (first | (with_reducible first | exact HB.out | apply below_alloc | apply pw_below_drewN | apply below_drew1) | exact HB.out)) hb); clear HB; have HB := n0_; clear n0_; (try clear hb); (try clear hb2); (try clear hk); (try clear hi)))
                        go_ret
                        exact ⟨by first | rfl | (simp [errW_none, errW_some] <;> rfl) | (simp [*, errW_none, errW_some] <;> rfl), by repeat (first | (with_reducible first | exact HB.out | apply below_alloc | apply pw_below_drewN | apply below_drew1) | exact HB.out)⟩
                      · rw [if_neg c15] at H
                        have c15b0 : decide ((wrap64 ((a0.size : Int) - x3_1)) < t101) = false := decide_eq_false c15
                        clear c15
                        have H' := Aside0.mk H
                        clear H
                        have p9 : 0 ≤ (x3_1 : Int) := of_decide_eq_true (by first | (with_reducible assumption) | assumption)
                        have q9 : x3_1 < (a0.size : Int) := of_decide_eq_true (by first | (with_reducible assumption) | assumption)
                        have hx9 := bt_at a0 x3_1
                        replace p9 := eq_true p9
                        replace q9 := eq_true q9
                        go_wp2_with (first | ((with_reducible refine gate_callee (f := 26) rfl ?_); refine goesL_ (some 25) rfl rfl Try.func26 (by kernel_rfl) rfl #[.string a0, .int .i64 (wrap64 (x3_1 + 1)), .int .i64 1] rfl (by (try simp only [List.map_toArray, List.map_cons, List.map_nil]); first | done | rfl | (simp only [List.length_drop, List.length_take]; rfl)) ?_; (with_reducible refine (octet_Get.calls a0 (wrap64 (x3_1 + 1)) 1 t101 true _ A11.out).mono ?_); rintro e w17 ⟨rfl, hb⟩; (try clear A11); refine ⟨_, rfl, ?_⟩; have n0_ := Aside0.mk (below_step (by repeat (first | (with_reducible first | exact HB.out | apply below_alloc | apply pw_below_drewN | apply below_drew1) | exact HB.out)) hb); clear HB; have HB := n0_; clear n0_; (try clear hb); (try clear hb2); (try clear hk); (try clear hi)))
                        go_roundg kj1
                        case measure => have := HK1.out; have := HJ1.out; omega
                        case rel => exact ⟨(wrap64 (x3_1 + t101)), (by first | rfl | (simp; done) | (congr 2; simp only [ByteArray.size_extract, ByteArray.size_append]; (try unfold wrap64); omega) | (simp only [ByteArray.size_extract, ByteArray.size_append, Nat.sub_zero]; done) | (congr 1; simp only [ByteArray.size_extract, ByteArray.size_append, Nat.sub_zero]; omega) | (simp [*]; done)), H', ⟨by have := HK1.out; have := HJ1.out; omega⟩, ⟨by repeat (first | (with_reducible first | exact HB.out | apply below_alloc | apply pw_below_drewN | apply below_drew1) | exact HB.out)⟩⟩
                  · replace c12 := Bool.eq_false_iff.mpr c12
                    subst c12
                    have H1 : (some false) = some r := by rw [if_neg (show ¬ (false = true) by decide)] at H; exact H
                    clear H
                    have H := H1
                    clear H1
                    obtain rfl := Option.some.inj H
                    have p9 : 0 ≤ (x3_1 : Int) := of_decide_eq_true (by first | (with_reducible assumption) | assumption)
                    have q9 : x3_1 < (a0.size : Int) := of_decide_eq_true (by first | (with_reducible assumption) | assumption)
                    have hx9 := bt_at a0 x3_1
                    replace p9 := eq_true p9
                    replace q9 := eq_true q9
                    go_wp2_with (first | ((with_reducible refine gate_callee (f := 26) rfl ?_); refine goesL_ (some 25) rfl rfl Try.func26 (by kernel_rfl) rfl #[.string a0, .int .i64 (wrap64 (x3_1 + 1)), .int .i64 1] rfl (by (try simp only [List.map_toArray, List.map_cons, List.map_nil]); first | done | rfl | (simp only [List.length_drop, List.length_take]; rfl)) ?_; (with_reducible refine (octet_Get.calls a0 (wrap64 (x3_1 + 1)) 1 t101 false _ A11.out).mono ?_); rintro e w18 ⟨rfl, hb⟩; (try clear A11); refine ⟨_, rfl, ?_⟩; have n0_ := Aside0.mk (below_step (by repeat (first | (with_reducible first | exact HB.out | apply below_alloc | apply pw_below_drewN | apply below_drew1) | exact HB.out)) hb); clear HB; have HB := n0_; clear n0_; (try clear hb); (try clear hb2); (try clear hk); (try clear hi)))
                    go_ret
                    exact ⟨by first | rfl | (simp [errW_none, errW_some] <;> rfl) | (simp [*, errW_none, errW_some] <;> rfl), by repeat (first | (with_reducible first | exact HB.out | apply below_alloc | apply pw_below_drewN | apply below_drew1) | exact HB.out)⟩
              · rw [if_neg c8] at H
                exact absurd H (by simp)
            · rw [if_neg c7] at H
              exact absurd H (by simp)
          · replace c6 := Bool.eq_false_iff.mpr c6
            subst c6
            have H1 : (some true) = some r := by rw [if_neg (show ¬ (false = true) by decide)] at H; exact H
            clear H
            have H := H1
            clear H1
            obtain rfl := Option.some.inj H
            go_wp2
            go_ret
            exact ⟨by first | rfl | (simp [errW_none, errW_some] <;> rfl) | (simp [*, errW_none, errW_some] <;> rfl), by repeat (first | (with_reducible first | exact HB.out | apply below_alloc | apply pw_below_drewN | apply below_drew1) | exact HB.out)⟩

theorem bt_bln {s : ByteArray} {i : Nat} (h : i < (bl s).length) : bt s (i : Int) = (((bl s)[i]'h).toNat : Int) := by
  have h' : ((i : Int)).toNat < s.size := by rw [← bl_length]; omega
  unfold bt; rw [dif_pos h']; rfl
theorem beNum_one1 (l : List UInt8) (a : Nat) (h : a < l.length) : Sp.beNum ((l.drop a).take 1) = ((l[a]'h).toNat : Int) := by
  rw [List.drop_eq_getElem_cons h, List.take_succ_cons, List.take_zero]
  show (0 : Int) * 256 + _ = _
  omega
def tcp_OptsRight.f (a0 : ByteArray) : Option Bool := if a0.size ≤ 140737488355328 then some (Sp.optsOk (bl a0)) else none
theorem tcp_OptsRight_eq {a0 : ByteArray} (h : a0.size ≤ 140737488355328) : tcp_OptsRight.f a0 = some (Sp.optsOk (bl a0)) := by unfold tcp_OptsRight.f; exact if_pos h
theorem tcp_opts_end (s : ByteArray) (k : Nat) : tcp_OptsRight_p.l0 (k + 1 + 1) s (s.size : Int) = some (Sp.optsOk ((bl s).drop s.size)) := by
  rw [tcp_OptsRight_p.l0, if_neg (by omega), tcp_OptsRight_p.j1, if_neg (by decide), List.drop_eq_nil_of_le (by rw [bl_length]; exact Nat.le_refl _)]; rfl
theorem tcp_opts_loop (s : ByteArray) (hs : s.size ≤ 140737488355328) : ∀ (n i : Nat), s.size - i ≤ n → i ≤ s.size → ∀ k, 2 * n + 2 ≤ k → tcp_OptsRight_p.l0 k s (i : Int) = some (Sp.optsOk ((bl s).drop i)) := by
  intro n
  induction n with
  | zero =>
    intro i h1 h2 k hk
    obtain ⟨k, rfl⟩ : ∃ k', k = k' + 1 + 1 := ⟨k - 2, by omega⟩
    obtain rfl : i = s.size := by omega
    exact tcp_opts_end s k
  | succ n ih =>
    intro i h1 h2 k hk
    obtain ⟨k, rfl⟩ : ∃ k', k = k' + 1 + 1 := ⟨k - 2, by omega⟩
    by_cases hi : i = s.size
    · subst hi; exact tcp_opts_end s k
    · have hl : i < (bl s).length := by rw [bl_length]; omega
      have hb := bt_bln hl
      have hx := ((bl s)[i]'hl).toNat_lt
      rw [tcp_OptsRight_p.l0, if_pos (by omega), if_pos (by omega), tcp_OptsRight_p.j1, Sp.opts_at _ _ hl]
      by_cases h0 : (bl s)[i] = 0
      · have e : bt s (i : Int) = 0 := by rw [hb, h0]; rfl
        rw [if_pos h0, e]; rfl
      · have e : bt s (i : Int) ≠ 0 := by
          rw [hb]; intro h; exact h0 (UInt8.toNat_inj.1 (by show _ = 0; omega))
        rw [if_neg h0, if_pos (by simpa using e), if_pos (by omega), if_pos (by omega)]
        by_cases h3 : (bl s)[i] = 1
        · have e1 : bt s (i : Int) = 1 := by rw [hb, h3]; rfl
          rw [if_pos h3, if_pos e1, wrap_id (by omega) (by omega)]
          have := ih (i + 1) (by omega) (by omega) k (by omega)
          rwa [show (((i + 1 : Nat)) : Int) = (i : Int) + 1 by omega] at this
        · have e1 : ¬ bt s (i : Int) = 1 := by
            rw [hb]; intro h; exact h3 (UInt8.toNat_inj.1 (by show _ = 1; omega))
          rw [if_neg h3, if_neg e1, wrap_id (n := (i : Int) + 1) (by omega) (by omega), octet_Get_eq _ _ _ (by omega), Option.bind_some]
          by_cases h4 : i + 1 < (bl s).length
          · have g : Sp.get (bl s) ((i : Int) + 1) 1 = ((((bl s)[i + 1]'h4).toNat : Int), true) := by
              have := Sp.get1 (bl s) (i + 1) (by omega)
              rw [beNum_one1 _ _ h4] at this
              rwa [show (((i + 1 : Nat)) : Int) = (i : Int) + 1 by omega] at this
            have hy := ((bl s)[i + 1]'h4).toNat_lt
            rw [dif_pos h4, g, if_pos rfl]
            simp only
            have h4' := h4
            rw [bl_length] at h4'
            have ih2 : ∀ y : Nat, 2 ≤ y → i + y ≤ s.size → tcp_OptsRight_p.l0 k s ((i : Int) + (y : Int)) = some (Sp.optsOk ((bl s).drop (i + y))) := fun y y2 hy2 => by
              have := ih (i + y) (by omega) (by omega) k (by omega)
              rwa [show (((i + y : Nat)) : Int) = (i : Int) + (y : Int) by omega] at this
            have hln := bl_length s
            clear g ih
            revert hy
            generalize UInt8.toNat _ = y
            intro hy
            by_cases h5 : y < 2
            · rw [if_pos (by omega), if_pos (Or.inl h5)]
            · rw [if_neg (by omega), wrap_id (n := (s.size : Int) - (i : Int)) (by omega) (by omega)]
              by_cases h6 : i + y > s.size
              · rw [if_pos (by omega), if_pos (Or.inr (by omega))]
              · rw [if_neg (by omega), if_neg (by omega), wrap_id (by omega) (by omega)]
                exact ih2 y (by omega) (by omega)
          · rw [dif_neg h4, Sp.get_no (Sp.has_no (by omega)), if_neg (by decide)]
theorem tcp_OptsRight_ev (a0 : ByteArray) (r : Bool) (h : tcp_OptsRight.f a0 = some r) : ∃ k, tcp_OptsRight_p.f k a0 = some r := by
  unfold tcp_OptsRight.f at h
  split at h
  case isFalse => cases h
  case isTrue hs =>
    refine ⟨2 * a0.size + 2, ?_⟩
    rw [← h]
    unfold tcp_OptsRight_p.f
    exact tcp_opts_loop a0 hs a0.size 0 (by omega) (by omega) _ (by omega)
theorem tcp_OptsRight.calls (a0 : ByteArray) (r : Bool) (w : World) (h : tcp_OptsRight.f a0 = some r) :
    Calls Try.prog 16 #[.string a0] w fun e w' => e = .returned (.bool r) ∧ Below w.heap.size w w' := by
  obtain ⟨k, hk⟩ := tcp_OptsRight_ev a0 _ h
  exact tcp_OptsRight_p.calls k a0 r w hk

/-! ### tcp_word: function 24 -/
def tcp_word.l0 : Nat → List Int → Int → Int → Option (Bool)
  | 0, _, _, _ => none
  | k + 1, x5, x6, x7 => if x7 < x6 then (if 0 ≤ x7 then (if x7 < (x5.length : Int) then (if (rd x5 x7) < 0 then (some false) else (if (rd x5 x7) > 65535 then (some false) else (tcp_word.l0 k x5 x6 (wrap64 (x7 + 1))))) else (none)) else (none)) else (some true)
def tcp_word.f (k : Nat) (l0 : List Int) : Option (Bool) := tcp_word.l0 k l0 (l0.length : Int) 0
theorem tcp_word.mono_l : ∀ k, (∀ y0 y1 y2, LeO (tcp_word.l0 k y0 y1 y2) (tcp_word.l0 (k + 1) y0 y1 y2))
  | 0 => fun _ _ _ r h => by simp [tcp_word.l0] at h
  | k + 1 => by
    have ih0 := tcp_word.mono_l k
    · intro y0 y1 y2
      unfold tcp_word.l0
      repeat' first
      | (with_reducible exact ih0 _ _ _)
      | (with_reducible exact LeO.refl _)
      | (with_reducible exact LeO.none _)
      | (with_reducible refine LeO.ite ?_ ?_)
      | (with_reducible refine LeO.bind ?_ (fun _ => ?_))
      | exact ih0 _ _ _
      | exact LeO.none _
      | refine LeO.ite ?_ ?_
      | refine LeO.bind ?_ (fun _ => ?_)
theorem tcp_word.mono : ∀ a0 k, LeO (tcp_word.f k a0) (tcp_word.f (k + 1) a0) := by
  intro a0 k
  have ih0 := tcp_word.mono_l k
  unfold tcp_word.f
  repeat' first
      | (with_reducible exact ih0 _ _ _)
      | (with_reducible exact LeO.refl _)
      | (with_reducible exact LeO.none _)
      | (with_reducible refine LeO.ite ?_ ?_)
      | (with_reducible refine LeO.bind ?_ (fun _ => ?_))
      | exact ih0 _ _ _
      | exact LeO.none _
      | refine LeO.ite ?_ ?_
      | refine LeO.bind ?_ (fun _ => ?_)
set_option maxHeartbeats 8000000 in
set_option maxRecDepth 100000 in
theorem tcp_word.calls (k : Nat) (A0 : Option Addr) (c0 : Nat) (l0 : List Int) (r : Bool) (w : World) (hr0 : Kd.C (Kd.int .i64) w A0 l0.length l0) (hc0 : l0.length ≤ c0) (h : tcp_word.f k l0 = some r) :
    Calls Try.prog 24 #[.slice A0 l0.length c0] w fun e w' => e = .returned (.bool r) ∧ Drawn0 w w' := by
  have HR0 := Aside0.mk hr0
  have HC0 := Aside0.mk hc0
  clear hr0 hc0
  have H : (tcp_word.l0 k l0 (l0.length : Int) 0) = some r := h
  clear h
  have H' := Aside0.mk H
  clear H
  go_enter Try.func24, Try.ntmps24
  go_wp2
  go_loopg [7] k (fun kq v7 w' => ∃ (x7_1 : Int), v7 = .int .i64 x7_1 ∧ Aside0 (tcp_word.l0 kq l0 (l0.length : Int) x7_1 = some r) ∧ Aside0 (kq ≤ k) ∧ Drawn0 w w')
  case atStart => exact ⟨(0), (by first | rfl | (simp; done) | (simp [*]; done)), H', ⟨Nat.le_refl _⟩, by repeat (first | exact Drawn0.refl _ | apply Drawn0.step)⟩
  case round =>
    clear H'
    obtain ⟨x7_1, rfl, HA, HK1, ⟨m1, rfl⟩⟩ := hrel
    cases gk with
    | zero => exact absurd HA.out (by simp [tcp_word.l0])
    | succ k1 =>
      have H := HA.out
      clear HA
      simp only [tcp_word.l0] at H
      by_cases c2 : x7_1 < (l0.length : Int)
      · rw [if_pos c2] at H
        have c2b0 : decide (x7_1 < (l0.length : Int)) = true := decide_eq_true c2
        clear c2
        by_cases c3 : 0 ≤ x7_1
        · rw [if_pos c3] at H
          have c3b0 : decide (0 ≤ x7_1) = true := decide_eq_true c3
          clear c3
          by_cases c4 : x7_1 < (l0.length : Int)
          · rw [if_pos c4] at H
            have c4b0 : decide (x7_1 < (l0.length : Int)) = true := decide_eq_true c4
            clear c4
            by_cases c5 : (rd l0 x7_1) < 0
            · rw [if_pos c5] at H
              have c5b0 : decide ((rd l0 x7_1) < 0) = true := decide_eq_true c5
              clear c5
              obtain rfl := Option.some.inj H
              have p103 : 0 ≤ (x7_1 : Int) := of_decide_eq_true (by first | (with_reducible assumption) | assumption)
              have q103 : x7_1 < (l0.length : Int) := of_decide_eq_true (by first | (with_reducible assumption) | assumption)
              obtain ⟨ad103, e103, hx103_0⟩ := Kd.at_int HR0.out x7_1 p103 q103
              cases e103
              replace p103 := eq_true p103
              replace q103 := eq_true q103
              go_wp2
              go_ret
              exact ⟨by first | rfl | (simp; done) | (simp [*]; done), by repeat (first | exact Drawn0.refl _ | apply Drawn0.step)⟩
            · rw [if_neg c5] at H
              have c5b0 : decide ((rd l0 x7_1) < 0) = false := decide_eq_false c5
              clear c5
              by_cases c6 : (rd l0 x7_1) > 65535
              · rw [if_pos c6] at H
                have c6b0 : decide (65535 < (rd l0 x7_1)) = true := decide_eq_true c6
                clear c6
                obtain rfl := Option.some.inj H
                have p103 : 0 ≤ (x7_1 : Int) := of_decide_eq_true (by first | (with_reducible assumption) | assumption)
                have q103 : x7_1 < (l0.length : Int) := of_decide_eq_true (by first | (with_reducible assumption) | assumption)
                obtain ⟨ad103, e103, hx103_0⟩ := Kd.at_int HR0.out x7_1 p103 q103
                cases e103
                replace p103 := eq_true p103
                replace q103 := eq_true q103
                go_wp2
                go_ret
                exact ⟨by first | rfl | (simp; done) | (simp [*]; done), by repeat (first | exact Drawn0.refl _ | apply Drawn0.step)⟩
              · rw [if_neg c6] at H
                have c6b0 : decide (65535 < (rd l0 x7_1)) = false := decide_eq_false c6
                clear c6
                have H' := Aside0.mk H
                clear H
                have p103 : 0 ≤ (x7_1 : Int) := of_decide_eq_true (by first | (with_reducible assumption) | assumption)
                have q103 : x7_1 < (l0.length : Int) := of_decide_eq_true (by first | (with_reducible assumption) | assumption)
                obtain ⟨ad103, e103, hx103_0⟩ := Kd.at_int HR0.out x7_1 p103 q103
                cases e103
                replace p103 := eq_true p103
                replace q103 := eq_true q103
                go_wp2
                go_roundg k1
                case measure => have := HK1.out; omega
                case rel => exact ⟨(wrap64 (x7_1 + 1)), (by first | rfl | (simp; done) | (congr 2; simp only [ByteArray.size_extract, ByteArray.size_append]; (try unfold wrap64); omega) | (simp only [ByteArray.size_extract, ByteArray.size_append, Nat.sub_zero]; done) | (congr 1; simp only [ByteArray.size_extract, ByteArray.size_append, Nat.sub_zero]; omega) | (simp [*]; done)), H', ⟨by have := HK1.out; omega⟩, by repeat (first | exact Drawn0.refl _ | apply Drawn0.step)⟩
          · rw [if_neg c4] at H
            exact absurd H (by simp)
        · rw [if_neg c3] at H
          exact absurd H (by simp)
      · rw [if_neg c2] at H
        have c2b0 : decide (x7_1 < (l0.length : Int)) = false := decide_eq_false c2
        clear c2
        obtain rfl := Option.some.inj H
        go_wp2
        go_ret
        exact ⟨by first | rfl | (simp; done) | (simp [*]; done), by repeat (first | exact Drawn0.refl _ | apply Drawn0.step)⟩

/-! ### tcp_Right_p: function 14 -/
def tcp_Right_p.f (k : Nat) (a0_0 : Int) (a0_1 : Int) (a0_2 : Int) (a0_3 : Int) (a0_4 : Int) (a0_5 : Int) (a0_6 : Int) (a0_7 : ByteArray) : Option (Bool) := (tcp_word.f k (([a0_0, a0_1, a0_5, a0_6] : List Int))).bind fun t108 => (if t108 = true then (if a0_4 ≥ 0 then (if a0_4 < 4096 then (if (a0_7.size : Int) ≤ 40 then (if ((a0_7.size : Int) % 4) = 0 then ((tcp_OptsRight.f a0_7).bind fun t109 => (some t109)) else (some false)) else (some false)) else (some false)) else (some false)) else (some false))
theorem tcp_Right_p.mono : ∀ a0 a1 a2 a3 a4 a5 a6 a7 k, LeO (tcp_Right_p.f k a0 a1 a2 a3 a4 a5 a6 a7) (tcp_Right_p.f (k + 1) a0 a1 a2 a3 a4 a5 a6 a7) := by
  intro a0 a1 a2 a3 a4 a5 a6 a7 k
  unfold tcp_Right_p.f
  repeat' first
      | (with_reducible exact tcp_word.mono _ _)
      | (with_reducible exact LeO.refl _)
      | (with_reducible exact LeO.none _)
      | (with_reducible refine LeO.ite ?_ ?_)
      | (with_reducible refine LeO.bind ?_ (fun _ => ?_))
      | exact tcp_word.mono _ _
      | exact LeO.none _
      | refine LeO.ite ?_ ?_
      | refine LeO.bind ?_ (fun _ => ?_)
set_option maxHeartbeats 8000000 in
set_option maxRecDepth 100000 in
theorem tcp_Right_p.calls (k : Nat) (a0_0 : Int) (a0_1 : Int) (a0_2 : Int) (a0_3 : Int) (a0_4 : Int) (a0_5 : Int) (a0_6 : Int) (a0_7 : ByteArray) (r : Bool) (w : World) (h : tcp_Right_p.f k a0_0 a0_1 a0_2 a0_3 a0_4 a0_5 a0_6 a0_7 = some r) :
    Calls Try.prog 14 #[.agg #[.int .i64 a0_0, .int .i64 a0_1, .int .u32 a0_2, .int .u32 a0_3, .int .i64 a0_4, .int .i64 a0_5, .int .i64 a0_6, .string a0_7]] w fun e w' => e = .returned (.bool r) ∧ Below w.heap.size w w' := by
  have hu24 := Try.underlying24
  have HB := Aside0.mk (Below.refl w.heap.size w)
  have H : ((tcp_word.f k (([a0_0, a0_1, a0_5, a0_6] : List Int))).bind fun t108 => (if t108 = true then (if a0_4 ≥ 0 then (if a0_4 < 4096 then (if (a0_7.size : Int) ≤ 40 then (if ((a0_7.size : Int) % 4) = 0 then ((tcp_OptsRight.f a0_7).bind fun t109 => (some t109)) else (some false)) else (some false)) else (some false)) else (some false)) else (some false))) = some r := h
  clear h
  obtain ⟨y105, hy105⟩ : ∃ y_ : List Int, y_ = (([a0_0, a0_1, a0_5, a0_6] : List Int)) := ⟨_, rfl⟩
  replace H : ((tcp_word.f k y105).bind fun t108 => (if t108 = true then (if a0_4 ≥ 0 then (if a0_4 < 4096 then (if (a0_7.size : Int) ≤ 40 then (if ((a0_7.size : Int) % 4) = 0 then ((tcp_OptsRight.f a0_7).bind fun t109 => (some t109)) else (some false)) else (some false)) else (some false)) else (some false)) else (some false))) = some r := by first | (rw [hy105]; with_reducible exact H) | (have H2_ := (Option.bind_some _ _).symm.trans H; rw [hy105]; with_reducible exact H2_) | (have H2_ := (Option.bind_some _ _).symm.trans H; with_reducible exact H2_) | with_reducible exact H | (rw [hy105]; exact H) | exact H
  have Ny105 := Aside0.mk hy105
  clear hy105
  replace H := Option.bind_eq_some_iff.mp H
  obtain ⟨t108, A20, H⟩ := H
  replace H : (if t108 = true then (if a0_4 ≥ 0 then (if a0_4 < 4096 then (if (a0_7.size : Int) ≤ 40 then (if ((a0_7.size : Int) % 4) = 0 then ((tcp_OptsRight.f a0_7).bind fun t109 => (some t109)) else (some false)) else (some false)) else (some false)) else (some false)) else (some false)) = some r := H
  have A2 := Aside0.mk A20
  clear A20
  by_cases c3 : t108 = true
  · subst c3
    have H1 : (if a0_4 ≥ 0 then (if a0_4 < 4096 then (if (a0_7.size : Int) ≤ 40 then (if ((a0_7.size : Int) % 4) = 0 then ((tcp_OptsRight.f a0_7).bind fun t109 => (some t109)) else (some false)) else (some false)) else (some false)) else (some false)) = some r := by first | (rw [if_pos rfl] at H; exact H) | (rw [if_pos trivial] at H; exact H)
    clear H
    have H := H1
    clear H1
    by_cases c4 : a0_4 ≥ 0
    · rw [if_pos c4] at H
      have c4b0 : decide (0 ≤ a0_4) = true := decide_eq_true c4
      clear c4
      by_cases c5 : a0_4 < 4096
      · rw [if_pos c5] at H
        have c5b0 : decide (a0_4 < 4096) = true := decide_eq_true c5
        clear c5
        by_cases c6 : (a0_7.size : Int) ≤ 40
        · rw [if_pos c6] at H
          have c6b0 : decide ((a0_7.size : Int) ≤ 40) = true := decide_eq_true c6
          have c6b1 : decide (a0_7.size ≤ 40) = true := decide_eq_true (by omega)
          clear c6
          by_cases c7 : ((a0_7.size : Int) % 4) = 0
          · rw [if_pos c7] at H
            have c7b0 : (((a0_7.size : Int) % 4) == 0) = true := beq_iff_eq.mpr c7
            have c7b1 : (((a0_7.size : Int) % 4) != 0) = false := bne_eq_false_iff_eq.mpr c7
            clear c7
            replace H := Option.bind_eq_some_iff.mp H
            obtain ⟨t109, A80, H⟩ := H
            replace H : (some t109) = some r := H
            have A8 := Aside0.mk A80
            clear A80
            obtain rfl := Option.some.inj H
            go_enter Try.func14, Try.ntmps14
            go_wp2_with (first | ((with_reducible refine gate_dst (N := 1) rfl ?_); (try (refine gate_guard (by rfl) ?_; dsimp only)); refine box_event ?hg (N := 1) ?hd (cs := #[.int .i64 a0_0, .int .i64 a0_1, .int .u32 a0_2, .int .u32 a0_3, .int .i64 a0_4, .int .i64 a0_5, .int .i64 a0_6, .string a0_7]) (t := 24) ?hr ?_; (case hd => rfl); (case hg => rfl); (case hr => first | (go_simp; done) | (go_simp; rfl)); intro gb104 hg w9 hbox hb; have n0_ := Aside0.mk (below_step (by repeat (first | (with_reducible first | exact HB.out | apply below_alloc | apply pw_below_drewN | apply below_drew1) | exact HB.out)) hb); have n1_ := Aside0.mk (hbox); have n2_ := Aside0.mk ((by rw [hg]; exact (below_size (by repeat (first | (with_reducible first | exact HB.out | apply below_alloc | apply pw_below_drewN | apply below_drew1) | exact HB.out))) : w.heap.size ≤ gb104)); have n3_ := Aside0.mk ((by rw [hg]; exact (below_size (by repeat (first | (with_reducible first | exact HB.out | apply below_alloc | apply pw_below_drewN | apply below_drew1) | exact HB.out))) : w.heap.size ≤ gb104)); clear HB; have HB := n0_; have BK104 := n1_; have GW104 := n2_; have GE104 := n3_; clear n0_ n1_ n2_ n3_; clear hb hbox hg; have hcz10_0 : w9.cell? ⟨gb104, 0, none⟩ = some (.int .i64 a0_0) := (blk_cell BK104.out 0).trans rfl; have hcz10_1 : w9.cell? ⟨gb104, 1, none⟩ = some (.int .i64 a0_1) := (blk_cell BK104.out 1).trans rfl; have hcz10_2 : w9.cell? ⟨gb104, 2, none⟩ = some (.int .u32 a0_2) := (blk_cell BK104.out 2).trans rfl; have hcz10_3 : w9.cell? ⟨gb104, 3, none⟩ = some (.int .u32 a0_3) := (blk_cell BK104.out 3).trans rfl; have hcz10_4 : w9.cell? ⟨gb104, 4, none⟩ = some (.int .i64 a0_4) := (blk_cell BK104.out 4).trans rfl; have hcz10_5 : w9.cell? ⟨gb104, 5, none⟩ = some (.int .i64 a0_5) := (blk_cell BK104.out 5).trans rfl; have hcz10_6 : w9.cell? ⟨gb104, 6, none⟩ = some (.int .i64 a0_6) := (blk_cell BK104.out 6).trans rfl; have hcz10_7 : w9.cell? ⟨gb104, 7, none⟩ = some (.string a0_7) := (blk_cell BK104.out 7).trans rfl; have hfz10_0 := blk_frozen BK104.out 0; have hfz10_1 := blk_frozen BK104.out 1; have hfz10_2 := blk_frozen BK104.out 2; have hfz10_3 := blk_frozen BK104.out 3; have hfz10_4 := blk_frozen BK104.out 4; have hfz10_5 := blk_frozen BK104.out 5; have hfz10_6 := blk_frozen BK104.out 6; have hfz10_7 := blk_frozen BK104.out 7) | ((with_reducible refine gate_dst (N := 11) rfl ?_); (try (refine gate_guard (by rfl) ?_; dsimp only)); refine Kd.R_lit (Kd.int .i64) _ 3 ?hg (N := 11) ?hd (xs := ([a0_0, a0_1, a0_5, a0_6] : List Int)) (inner := [.int .i64 a0_0, .int .i64 a0_1, .int .i64 a0_5, .int .i64 a0_6]) (ok := fun _ => True) (okp := fun _ => True) ?hr ?hp (fun _ hk => hk) trivial (Below.refl _ _) (Nat.le_refl _) (by simp) ?_; (case hd => rfl); (case hg => rfl); (case hr => first | (go_simp; done) | (go_simp; rfl)); (case hp => exact (Reps.one (show Kd.M (Kd.int .i64) _ _ _ a0_0 [.int .i64 a0_0] from rfl) (Reps.one (show Kd.M (Kd.int .i64) _ _ _ a0_1 [.int .i64 a0_1] from rfl) (Reps.one (show Kd.M (Kd.int .i64) _ _ _ a0_5 [.int .i64 a0_5] from rfl) (Reps.one (show Kd.M (Kd.int .i64) _ _ _ a0_6 [.int .i64 a0_6] from rfl) (Reps.none _ _)))))); intro v106 w11 ho12 hb hg_ hnew_; clear hg_ hnew_; (first | rw [← Ny105.out] at ho12 | (simp only [Int.reduceToNat] at ho12; rw [← Ny105.out] at ho12)); have n0_ := Aside0.mk (Kd.R_lower ho12 (below_size (by repeat (first | (with_reducible first | exact HB.out | apply below_alloc | apply pw_below_drewN | apply below_drew1 | refine below_set ?_ GE104.out) | exact HB.out)))); have n1_ := Aside0.mk (blk_below (g := gb104) (o := .cells #[.int .i64 a0_0, .int .i64 a0_1, .int .u32 a0_2, .int .u32 a0_3, .int .i64 a0_4, .int .i64 a0_5, .int .i64 a0_6, .string a0_7] 24 (0, 0)) (by (with_reducible repeat (first | refine blk_drewN ?_ _ | refine blk_drew ?_ | refine blk_alloc ?_ _)); exact BK104.out) hb); have n2_ := Aside0.mk (below_step (by repeat (first | (with_reducible first | exact HB.out | apply below_alloc | apply pw_below_drewN | apply below_drew1 | refine below_set ?_ GE104.out) | exact HB.out)) hb); clear BK104; clear HB; have HO107 := n0_; have BK104 := n1_; have HB := n2_; clear n0_ n1_ n2_; clear hb ho12; obtain ⟨Ao13, co13, eo13⟩ := Kd.R_slice HO107.out; subst eo13) | ((with_reducible refine gate_callee (f := 24) rfl ?_); refine goesL_ (some 12) rfl rfl Try.func24 (by kernel_rfl) rfl #[.slice Ao13 y105.length co13] rfl (by (try simp only [List.map_toArray, List.map_cons, List.map_nil]); first | done | rfl | (simp only [List.length_drop, List.length_take]; rfl)) ?_; (with_reducible refine (tcp_word.calls k _ _ y105 true _ ?side1 ?side2 A2.out).mono ?_); (case side1 => repeat (first | exact (Kd.R_reads' HO107.out).2.2 | (with_reducible refine Kd.C_alloc ?_ _) | (with_reducible refine Kd.C_drewN ?_ _) | (with_reducible refine Kd.C_drew ?_))); (case side2 => exact (Kd.R_reads' HO107.out).2.1); rintro e w' ⟨rfl, ⟨nd, rfl⟩⟩; refine ⟨_, rfl, ?_⟩; have hcz14_0 : w11.cell? ⟨gb104, 0, none⟩ = some (.int .i64 a0_0) := (blk_cell BK104.out 0).trans rfl; have hcz14_1 : w11.cell? ⟨gb104, 1, none⟩ = some (.int .i64 a0_1) := (blk_cell BK104.out 1).trans rfl; have hcz14_2 : w11.cell? ⟨gb104, 2, none⟩ = some (.int .u32 a0_2) := (blk_cell BK104.out 2).trans rfl; have hcz14_3 : w11.cell? ⟨gb104, 3, none⟩ = some (.int .u32 a0_3) := (blk_cell BK104.out 3).trans rfl; have hcz14_4 : w11.cell? ⟨gb104, 4, none⟩ = some (.int .i64 a0_4) := (blk_cell BK104.out 4).trans rfl; have hcz14_5 : w11.cell? ⟨gb104, 5, none⟩ = some (.int .i64 a0_5) := (blk_cell BK104.out 5).trans rfl; have hcz14_6 : w11.cell? ⟨gb104, 6, none⟩ = some (.int .i64 a0_6) := (blk_cell BK104.out 6).trans rfl; have hcz14_7 : w11.cell? ⟨gb104, 7, none⟩ = some (.string a0_7) := (blk_cell BK104.out 7).trans rfl; have hfz14_0 := blk_frozen BK104.out 0; have hfz14_1 := blk_frozen BK104.out 1; have hfz14_2 := blk_frozen BK104.out 2; have hfz14_3 := blk_frozen BK104.out 3; have hfz14_4 := blk_frozen BK104.out 4; have hfz14_5 := blk_frozen BK104.out 5; have hfz14_6 := blk_frozen BK104.out 6; have hfz14_7 := blk_frozen BK104.out 7) | (go_at_call 16; (with_reducible refine (tcp_OptsRight.calls a0_7 t109 _ A8.out).mono ?_); rintro e w15 ⟨rfl, hb⟩; (try clear A8); have n0_ := Aside0.mk (Kd.R_below (by (with_reducible repeat (first | apply Kd.R_alloc | apply Kd.R_drewN | apply Kd.R_drew)); exact HO107.out) hb); have n1_ := Aside0.mk (blk_below (g := gb104) (o := .cells #[.int .i64 a0_0, .int .i64 a0_1, .int .u32 a0_2, .int .u32 a0_3, .int .i64 a0_4, .int .i64 a0_5, .int .i64 a0_6, .string a0_7] 24 (0, 0)) (by (with_reducible repeat (first | refine blk_drewN ?_ _ | refine blk_drew ?_ | refine blk_alloc ?_ _)); exact BK104.out) hb); have n2_ := Aside0.mk (below_step (by repeat (first | (with_reducible first | exact HB.out | apply below_alloc | apply pw_below_drewN | apply below_drew1 | refine below_set ?_ GE104.out) | exact HB.out)) hb); clear HO107; clear BK104; clear HB; have HO107 := n0_; have BK104 := n1_; have HB := n2_; clear n0_ n1_ n2_; (try clear hb); (try clear hb2); (try clear hk); (try clear hi)))
            go_ret
            exact ⟨by first | rfl | (simp [errW_none, errW_some] <;> rfl) | (simp [*, errW_none, errW_some] <;> rfl), by repeat (first | (with_reducible first | exact HB.out | apply below_alloc | apply pw_below_drewN | apply below_drew1 | refine below_set ?_ GE104.out) | exact HB.out)⟩
          · rw [if_neg c7] at H
            have c7b0 : (((a0_7.size : Int) % 4) == 0) = false := beq_eq_false_iff_ne.mpr c7
            have c7b1 : (((a0_7.size : Int) % 4) != 0) = true := bne_iff_ne.mpr c7
            obtain rfl := Option.some.inj H
            go_enter Try.func14, Try.ntmps14
            go_wp2_with (first | ((with_reducible refine gate_dst (N := 1) rfl ?_); (try (refine gate_guard (by rfl) ?_; dsimp only)); refine box_event ?hg (N := 1) ?hd (cs := #[.int .i64 a0_0, .int .i64 a0_1, .int .u32 a0_2, .int .u32 a0_3, .int .i64 a0_4, .int .i64 a0_5, .int .i64 a0_6, .string a0_7]) (t := 24) ?hr ?_; (case hd => rfl); (case hg => rfl); (case hr => first | (go_simp; done) | (go_simp; rfl)); intro gb104 hg w16 hbox hb; have n0_ := Aside0.mk (below_step (by repeat (first | (with_reducible first | exact HB.out | apply below_alloc | apply pw_below_drewN | apply below_drew1) | exact HB.out)) hb); have n1_ := Aside0.mk (hbox); have n2_ := Aside0.mk ((by rw [hg]; exact (below_size (by repeat (first | (with_reducible first | exact HB.out | apply below_alloc | apply pw_below_drewN | apply below_drew1) | exact HB.out))) : w.heap.size ≤ gb104)); have n3_ := Aside0.mk ((by rw [hg]; exact (below_size (by repeat (first | (with_reducible first | exact HB.out | apply below_alloc | apply pw_below_drewN | apply below_drew1) | exact HB.out))) : w.heap.size ≤ gb104)); clear HB; have HB := n0_; have BK104 := n1_; have GW104 := n2_; have GE104 := n3_; clear n0_ n1_ n2_ n3_; clear hb hbox hg; have hcz17_0 : w16.cell? ⟨gb104, 0, none⟩ = some (.int .i64 a0_0) := (blk_cell BK104.out 0).trans rfl; have hcz17_1 : w16.cell? ⟨gb104, 1, none⟩ = some (.int .i64 a0_1) := (blk_cell BK104.out 1).trans rfl; have hcz17_2 : w16.cell? ⟨gb104, 2, none⟩ = some (.int .u32 a0_2) := (blk_cell BK104.out 2).trans rfl; have hcz17_3 : w16.cell? ⟨gb104, 3, none⟩ = some (.int .u32 a0_3) := (blk_cell BK104.out 3).trans rfl; have hcz17_4 : w16.cell? ⟨gb104, 4, none⟩ = some (.int .i64 a0_4) := (blk_cell BK104.out 4).trans rfl; have hcz17_5 : w16.cell? ⟨gb104, 5, none⟩ = some (.int .i64 a0_5) := (blk_cell BK104.out 5).trans rfl; have hcz17_6 : w16.cell? ⟨gb104, 6, none⟩ = some (.int .i64 a0_6) := (blk_cell BK104.out 6).trans rfl; have hcz17_7 : w16.cell? ⟨gb104, 7, none⟩ = some (.string a0_7) := (blk_cell BK104.out 7).trans rfl; have hfz17_0 := blk_frozen BK104.out 0; have hfz17_1 := blk_frozen BK104.out 1; have hfz17_2 := blk_frozen BK104.out 2; have hfz17_3 := blk_frozen BK104.out 3; have hfz17_4 := blk_frozen BK104.out 4; have hfz17_5 := blk_frozen BK104.out 5; have hfz17_6 := blk_frozen BK104.out 6; have hfz17_7 := blk_frozen BK104.out 7) | ((with_reducible refine gate_dst (N := 11) rfl ?_); (try (refine gate_guard (by rfl) ?_; dsimp only)); refine Kd.R_lit (Kd.int .i64) _ 3 ?hg (N := 11) ?hd (xs := ([a0_0, a0_1, a0_5, a0_6] : List Int)) (inner := [.int .i64 a0_0, .int .i64 a0_1, .int .i64 a0_5, .int .i64 a0_6]) (ok := fun _ => True) (okp := fun _ => True) ?hr ?hp (fun _ hk => hk) trivial (Below.refl _ _) (Nat.le_refl _) (by simp) ?_; (case hd => rfl); (case hg => rfl); (case hr => first | (go_simp; done) | (go_simp; rfl)); (case hp => exact (Reps.one (show Kd.M (Kd.int .i64) _ _ _ a0_0 [.int .i64 a0_0] from rfl) (Reps.one (show Kd.M (Kd.int .i64) _ _ _ a0_1 [.int .i64 a0_1] from rfl) (Reps.one (show Kd.M (Kd.int .i64) _ _ _ a0_5 [.int .i64 a0_5] from rfl) (Reps.one (show Kd.M (Kd.int .i64) _ _ _ a0_6 [.int .i64 a0_6] from rfl) (Reps.none _ _)))))); intro v106 w18 ho19 hb hg_ hnew_; clear hg_ hnew_; (first | rw [← Ny105.out] at ho19 | (simp only [Int.reduceToNat] at ho19; rw [← Ny105.out] at ho19)); have n0_ := Aside0.mk (Kd.R_lower ho19 (below_size (by repeat (first | (with_reducible first | exact HB.out | apply below_alloc | apply pw_below_drewN | apply below_drew1 | refine below_set ?_ GE104.out) | exact HB.out)))); have n1_ := Aside0.mk (blk_below (g := gb104) (o := .cells #[.int .i64 a0_0, .int .i64 a0_1, .int .u32 a0_2, .int .u32 a0_3, .int .i64 a0_4, .int .i64 a0_5, .int .i64 a0_6, .string a0_7] 24 (0, 0)) (by (with_reducible repeat (first | refine blk_drewN ?_ _ | refine blk_drew ?_ | refine blk_alloc ?_ _)); exact BK104.out) hb); have n2_ := Aside0.mk (below_step (by repeat (first | (with_reducible first | exact HB.out | apply below_alloc | apply pw_below_drewN | apply below_drew1 | refine below_set ?_ GE104.out) | exact HB.out)) hb); clear BK104; clear HB; have HO107 := n0_; have BK104 := n1_; have HB := n2_; clear n0_ n1_ n2_; clear hb ho19; obtain ⟨Ao20, co20, eo20⟩ := Kd.R_slice HO107.out; subst eo20) | ((with_reducible refine gate_callee (f := 24) rfl ?_); refine goesL_ (some 12) rfl rfl Try.func24 (by kernel_rfl) rfl #[.slice Ao20 y105.length co20] rfl (by (try simp only [List.map_toArray, List.map_cons, List.map_nil]); first | done | rfl | (simp only [List.length_drop, List.length_take]; rfl)) ?_; (with_reducible refine (tcp_word.calls k _ _ y105 true _ ?side1 ?side2 A2.out).mono ?_); (case side1 => repeat (first | exact (Kd.R_reads' HO107.out).2.2 | (with_reducible refine Kd.C_alloc ?_ _) | (with_reducible refine Kd.C_drewN ?_ _) | (with_reducible refine Kd.C_drew ?_))); (case side2 => exact (Kd.R_reads' HO107.out).2.1); rintro e w' ⟨rfl, ⟨nd, rfl⟩⟩; refine ⟨_, rfl, ?_⟩; have hcz21_0 : w18.cell? ⟨gb104, 0, none⟩ = some (.int .i64 a0_0) := (blk_cell BK104.out 0).trans rfl; have hcz21_1 : w18.cell? ⟨gb104, 1, none⟩ = some (.int .i64 a0_1) := (blk_cell BK104.out 1).trans rfl; have hcz21_2 : w18.cell? ⟨gb104, 2, none⟩ = some (.int .u32 a0_2) := (blk_cell BK104.out 2).trans rfl; have hcz21_3 : w18.cell? ⟨gb104, 3, none⟩ = some (.int .u32 a0_3) := (blk_cell BK104.out 3).trans rfl; have hcz21_4 : w18.cell? ⟨gb104, 4, none⟩ = some (.int .i64 a0_4) := (blk_cell BK104.out 4).trans rfl; have hcz21_5 : w18.cell? ⟨gb104, 5, none⟩ = some (.int .i64 a0_5) := (blk_cell BK104.out 5).trans rfl; have hcz21_6 : w18.cell? ⟨gb104, 6, none⟩ = some (.int .i64 a0_6) := (blk_cell BK104.out 6).trans rfl; have hcz21_7 : w18.cell? ⟨gb104, 7, none⟩ = some (.string a0_7) := (blk_cell BK104.out 7).trans rfl; have hfz21_0 := blk_frozen BK104.out 0; have hfz21_1 := blk_frozen BK104.out 1; have hfz21_2 := blk_frozen BK104.out 2; have hfz21_3 := blk_frozen BK104.out 3; have hfz21_4 := blk_frozen BK104.out 4; have hfz21_5 := blk_frozen BK104.out 5; have hfz21_6 := blk_frozen BK104.out 6; have hfz21_7 := blk_frozen BK104.out 7))
            go_ret
            exact ⟨by first | rfl | (simp [errW_none, errW_some] <;> rfl) | (simp [*, errW_none, errW_some] <;> rfl), by repeat (first | (with_reducible first | exact HB.out | apply below_alloc | apply pw_below_drewN | apply below_drew1 | refine below_set ?_ GE104.out) | exact HB.out)⟩
        · rw [if_neg c6] at H
          have c6b0 : decide ((a0_7.size : Int) ≤ 40) = false := decide_eq_false c6
          have c6b1 : decide (a0_7.size ≤ 40) = false := decide_eq_false (by omega)
          clear c6
          obtain rfl := Option.some.inj H
          go_enter Try.func14, Try.ntmps14
          go_wp2_with (first | ((with_reducible refine gate_dst (N := 1) rfl ?_); (try (refine gate_guard (by rfl) ?_; dsimp only)); refine box_event ?hg (N := 1) ?hd (cs := #[.int .i64 a0_0, .int .i64 a0_1, .int .u32 a0_2, .int .u32 a0_3, .int .i64 a0_4, .int .i64 a0_5, .int .i64 a0_6, .string a0_7]) (t := 24) ?hr ?_; (case hd => rfl); (case hg => rfl); (case hr => first | (go_simp; done) | (go_simp; rfl)); intro gb104 hg w22 hbox hb; have n0_ := Aside0.mk (below_step (by repeat (first | (with_reducible first | exact HB.out | apply below_alloc | apply pw_below_drewN | apply below_drew1) | exact HB.out)) hb); have n1_ := Aside0.mk (hbox); have n2_ := Aside0.mk ((by rw [hg]; exact (below_size (by repeat (first | (with_reducible first | exact HB.out | apply below_alloc | apply pw_below_drewN | apply below_drew1) | exact HB.out))) : w.heap.size ≤ gb104)); have n3_ := Aside0.mk ((by rw [hg]; exact (below_size (by repeat (first | (with_reducible first | exact HB.out | apply below_alloc | apply pw_below_drewN | apply below_drew1) | exact HB.out))) : w.heap.size ≤ gb104)); clear HB; have HB := n0_; have BK104 := n1_; have GW104 := n2_; have GE104 := n3_; clear n0_ n1_ n2_ n3_; clear hb hbox hg; have hcz23_0 : w22.cell? ⟨gb104, 0, none⟩ = some (.int .i64 a0_0) := (blk_cell BK104.out 0).trans rfl; have hcz23_1 : w22.cell? ⟨gb104, 1, none⟩ = some (.int .i64 a0_1) := (blk_cell BK104.out 1).trans rfl; have hcz23_2 : w22.cell? ⟨gb104, 2, none⟩ = some (.int .u32 a0_2) := (blk_cell BK104.out 2).trans rfl; have hcz23_3 : w22.cell? ⟨gb104, 3, none⟩ = some (.int .u32 a0_3) := (blk_cell BK104.out 3).trans rfl; have hcz23_4 : w22.cell? ⟨gb104, 4, none⟩ = some (.int .i64 a0_4) := (blk_cell BK104.out 4).trans rfl; have hcz23_5 : w22.cell? ⟨gb104, 5, none⟩ = some (.int .i64 a0_5) := (blk_cell BK104.out 5).trans rfl; have hcz23_6 : w22.cell? ⟨gb104, 6, none⟩ = some (.int .i64 a0_6) := (blk_cell BK104.out 6).trans rfl; have hcz23_7 : w22.cell? ⟨gb104, 7, none⟩ = some (.string a0_7) := (blk_cell BK104.out 7).trans rfl; have hfz23_0 := blk_frozen BK104.out 0; have hfz23_1 := blk_frozen BK104.out 1; have hfz23_2 := blk_frozen BK104.out 2; have hfz23_3 := blk_frozen BK104.out 3; have hfz23_4 := blk_frozen BK104.out 4; have hfz23_5 := blk_frozen BK104.out 5; have hfz23_6 := blk_frozen BK104.out 6; have hfz23_7 := blk_frozen BK104.out 7) | ((with_reducible refine gate_dst (N := 11) rfl ?_); (try (refine gate_guard (by rfl) ?_; dsimp only)); refine Kd.R_lit (Kd.int .i64) _ 3 ?hg (N := 11) ?hd (xs := ([a0_0, a0_1, a0_5, a0_6] : List Int)) (inner := [.int .i64 a0_0, .int .i64 a0_1, .int .i64 a0_5, .int .i64 a0_6]) (ok := fun _ => True) (okp := fun _ => True) ?hr ?hp (fun _ hk => hk) trivial (Below.refl _ _) (Nat.le_refl _) (by simp) ?_; (case hd => rfl); (case hg => rfl); (case hr => first | (go_simp; done) | (go_simp; rfl)); (case hp => exact (Reps.one (show Kd.M (Kd.int .i64) _ _ _ a0_0 [.int .i64 a0_0] from rfl) (Reps.one (show Kd.M (Kd.int .i64) _ _ _ a0_1 [.int .i64 a0_1] from rfl) (Reps.one (show Kd.M (Kd.int .i64) _ _ _ a0_5 [.int .i64 a0_5] from rfl) (Reps.one (show Kd.M (Kd.int .i64) _ _ _ a0_6 [.int .i64 a0_6] from rfl) (Reps.none _ _)))))); intro v106 w24 ho25 hb hg_ hnew_; clear hg_ hnew_; (first | rw [← Ny105.out] at ho25 | (simp only [Int.reduceToNat] at ho25; rw [← Ny105.out] at ho25)); have n0_ := Aside0.mk (Kd.R_lower ho25 (below_size (by repeat (first | (with_reducible first | exact HB.out | apply below_alloc | apply pw_below_drewN | apply below_drew1 | refine below_set ?_ GE104.out) | exact HB.out)))); have n1_ := Aside0.mk (blk_below (g := gb104) (o := .cells #[.int .i64 a0_0, .int .i64 a0_1, .int .u32 a0_2, .int .u32 a0_3, .int .i64 a0_4, .int .i64 a0_5, .int .i64 a0_6, .string a0_7] 24 (0, 0)) (by (with_reducible repeat (first | refine blk_drewN ?_ _ | refine blk_drew ?_ | refine blk_alloc ?_ _)); exact BK104.out) hb); have n2_ := Aside0.mk (below_step (by repeat (first | (with_reducible first | exact HB.out | apply below_alloc | apply pw_below_drewN | apply below_drew1 | refine below_set ?_ GE104.out) | exact HB.out)) hb); clear BK104; clear HB; have HO107 := n0_; have BK104 := n1_; have HB := n2_; clear n0_ n1_ n2_; clear hb ho25; obtain ⟨Ao26, co26, eo26⟩ := Kd.R_slice HO107.out; subst eo26) | ((with_reducible refine gate_callee (f := 24) rfl ?_); refine goesL_ (some 12) rfl rfl Try.func24 (by kernel_rfl) rfl #[.slice Ao26 y105.length co26] rfl (by (try simp only [List.map_toArray, List.map_cons, List.map_nil]); first | done | rfl | (simp only [List.length_drop, List.length_take]; rfl)) ?_; (with_reducible refine (tcp_word.calls k _ _ y105 true _ ?side1 ?side2 A2.out).mono ?_); (case side1 => repeat (first | exact (Kd.R_reads' HO107.out).2.2 | (with_reducible refine Kd.C_alloc ?_ _) | (with_reducible refine Kd.C_drewN ?_ _) | (with_reducible refine Kd.C_drew ?_))); (case side2 => exact (Kd.R_reads' HO107.out).2.1); rintro e w' ⟨rfl, ⟨nd, rfl⟩⟩; refine ⟨_, rfl, ?_⟩; have hcz27_0 : w24.cell? ⟨gb104, 0, none⟩ = some (.int .i64 a0_0) := (blk_cell BK104.out 0).trans rfl; have hcz27_1 : w24.cell? ⟨gb104, 1, none⟩ = some (.int .i64 a0_1) := (blk_cell BK104.out 1).trans rfl; have hcz27_2 : w24.cell? ⟨gb104, 2, none⟩ = some (.int .u32 a0_2) := (blk_cell BK104.out 2).trans rfl; have hcz27_3 : w24.cell? ⟨gb104, 3, none⟩ = some (.int .u32 a0_3) := (blk_cell BK104.out 3).trans rfl; have hcz27_4 : w24.cell? ⟨gb104, 4, none⟩ = some (.int .i64 a0_4) := (blk_cell BK104.out 4).trans rfl; have hcz27_5 : w24.cell? ⟨gb104, 5, none⟩ = some (.int .i64 a0_5) := (blk_cell BK104.out 5).trans rfl; have hcz27_6 : w24.cell? ⟨gb104, 6, none⟩ = some (.int .i64 a0_6) := (blk_cell BK104.out 6).trans rfl; have hcz27_7 : w24.cell? ⟨gb104, 7, none⟩ = some (.string a0_7) := (blk_cell BK104.out 7).trans rfl; have hfz27_0 := blk_frozen BK104.out 0; have hfz27_1 := blk_frozen BK104.out 1; have hfz27_2 := blk_frozen BK104.out 2; have hfz27_3 := blk_frozen BK104.out 3; have hfz27_4 := blk_frozen BK104.out 4; have hfz27_5 := blk_frozen BK104.out 5; have hfz27_6 := blk_frozen BK104.out 6; have hfz27_7 := blk_frozen BK104.out 7))
          go_ret
          exact ⟨by first | rfl | (simp [errW_none, errW_some] <;> rfl) | (simp [*, errW_none, errW_some] <;> rfl), by repeat (first | (with_reducible first | exact HB.out | apply below_alloc | apply pw_below_drewN | apply below_drew1 | refine below_set ?_ GE104.out) | exact HB.out)⟩
      · rw [if_neg c5] at H
        have c5b0 : decide (a0_4 < 4096) = false := decide_eq_false c5
        clear c5
        obtain rfl := Option.some.inj H
        go_enter Try.func14, Try.ntmps14
        go_wp2_with (first | ((with_reducible refine gate_dst (N := 1) rfl ?_); (try (refine gate_guard (by rfl) ?_; dsimp only)); refine box_event ?hg (N := 1) ?hd (cs := #[.int .i64 a0_0, .int .i64 a0_1, .int .u32 a0_2, .int .u32 a0_3, .int .i64 a0_4, .int .i64 a0_5, .int .i64 a0_6, .string a0_7]) (t := 24) ?hr ?_; (case hd => rfl); (case hg => rfl); (case hr => first | (go_simp; done) | (go_simp; rfl)); intro gb104 hg w28 hbox hb; have n0_ := Aside0.mk (below_step (by repeat (first | (with_reducible first | exact HB.out | apply below_alloc | apply pw_below_drewN | apply below_drew1) | exact HB.out)) hb); have n1_ := Aside0.mk (hbox); have n2_ := Aside0.mk ((by rw [hg]; exact (below_size (by repeat (first | (with_reducible first | exact HB.out | apply below_alloc | apply pw_below_drewN | apply below_drew1) | exact HB.out))) : w.heap.size ≤ gb104)); have n3_ := Aside0.mk ((by rw [hg]; exact (below_size (by repeat (first | (with_reducible first | exact HB.out | apply below_alloc | apply pw_below_drewN | apply below_drew1) | exact HB.out))) : w.heap.size ≤ gb104)); clear HB; have HB := n0_; have BK104 := n1_; have GW104 := n2_; have GE104 := n3_; clear n0_ n1_ n2_ n3_; clear hb hbox hg; have hcz29_0 : w28.cell? ⟨gb104, 0, none⟩ = some (.int .i64 a0_0) := (blk_cell BK104.out 0).trans rfl; have hcz29_1 : w28.cell? ⟨gb104, 1, none⟩ = some (.int .i64 a0_1) := (blk_cell BK104.out 1).trans rfl; have hcz29_2 : w28.cell? ⟨gb104, 2, none⟩ = some (.int .u32 a0_2) := (blk_cell BK104.out 2).trans rfl; have hcz29_3 : w28.cell? ⟨gb104, 3, none⟩ = some (.int .u32 a0_3) := (blk_cell BK104.out 3).trans rfl; have hcz29_4 : w28.cell? ⟨gb104, 4, none⟩ = some (.int .i64 a0_4) := (blk_cell BK104.out 4).trans rfl; have hcz29_5 : w28.cell? ⟨gb104, 5, none⟩ = some (.int .i64 a0_5) := (blk_cell BK104.out 5).trans rfl; have hcz29_6 : w28.cell? ⟨gb104, 6, none⟩ = some (.int .i64 a0_6) := (blk_cell BK104.out 6).trans rfl; have hcz29_7 : w28.cell? ⟨gb104, 7, none⟩ = some (.string a0_7) := (blk_cell BK104.out 7).trans rfl; have hfz29_0 := blk_frozen BK104.out 0; have hfz29_1 := blk_frozen BK104.out 1; have hfz29_2 := blk_frozen BK104.out 2; have hfz29_3 := blk_frozen BK104.out 3; have hfz29_4 := blk_frozen BK104.out 4; have hfz29_5 := blk_frozen BK104.out 5; have hfz29_6 := blk_frozen BK104.out 6; have hfz29_7 := blk_frozen BK104.out 7) | ((with_reducible refine gate_dst (N := 11) rfl ?_); (try (refine gate_guard (by rfl) ?_; dsimp only)); refine Kd.R_lit (Kd.int .i64) _ 3 ?hg (N := 11) ?hd (xs := ([a0_0, a0_1, a0_5, a0_6] : List Int)) (inner := [.int .i64 a0_0, .int .i64 a0_1, .int .i64 a0_5, .int .i64 a0_6]) (ok := fun _ => True) (okp := fun _ => True) ?hr ?hp (fun _ hk => hk) trivial (Below.refl _ _) (Nat.le_refl _) (by simp) ?_; (case hd => rfl); (case hg => rfl); (case hr => first | (go_simp; done) | (go_simp; rfl)); (case hp => exact (Reps.one (show Kd.M (Kd.int .i64) _ _ _ a0_0 [.int .i64 a0_0] from rfl) (Reps.one (show Kd.M (Kd.int .i64) _ _ _ a0_1 [.int .i64 a0_1] from rfl) (Reps.one (show Kd.M (Kd.int .i64) _ _ _ a0_5 [.int .i64 a0_5] from rfl) (Reps.one (show Kd.M (Kd.int .i64) _ _ _ a0_6 [.int .i64 a0_6] from rfl) (Reps.none _ _)))))); intro v106 w30 ho31 hb hg_ hnew_; clear hg_ hnew_; (first | rw [← Ny105.out] at ho31 | (simp only [Int.reduceToNat] at ho31; rw [← Ny105.out] at ho31)); have n0_ := Aside0.mk (Kd.R_lower ho31 (below_size (by repeat (first | (with_reducible first | exact HB.out | apply below_alloc | apply pw_below_drewN | apply below_drew1 | refine below_set ?_ GE104.out) | exact HB.out)))); have n1_ := Aside0.mk (blk_below (g := gb104) (o := .cells #[.int .i64 a0_0, .int .i64 a0_1, .int .u32 a0_2, .int .u32 a0_3, .int .i64 a0_4, .int .i64 a0_5, .int .i64 a0_6, .string a0_7] 24 (0, 0)) (by (with_reducible repeat (first | refine blk_drewN ?_ _ | refine blk_drew ?_ | refine blk_alloc ?_ _)); exact BK104.out) hb); have n2_ := Aside0.mk (below_step (by repeat (first | (with_reducible first | exact HB.out | apply below_alloc | apply pw_below_drewN | apply below_drew1 | refine below_set ?_ GE104.out) | exact HB.out)) hb); clear BK104; clear HB; have HO107 := n0_; have BK104 := n1_; have HB := n2_; clear n0_ n1_ n2_; clear hb ho31; obtain ⟨Ao32, co32, eo32⟩ := Kd.R_slice HO107.out; subst eo32) | ((with_reducible refine gate_callee (f := 24) rfl ?_); refine goesL_ (some 12) rfl rfl Try.func24 (by kernel_rfl) rfl #[.slice Ao32 y105.length co32] rfl (by (try simp only [List.map_toArray, List.map_cons, List.map_nil]); first | done | rfl | (simp only [List.length_drop, List.length_take]; rfl)) ?_; (with_reducible refine (tcp_word.calls k _ _ y105 true _ ?side1 ?side2 A2.out).mono ?_); (case side1 => repeat (first | exact (Kd.R_reads' HO107.out).2.2 | (with_reducible refine Kd.C_alloc ?_ _) | (with_reducible refine Kd.C_drewN ?_ _) | (with_reducible refine Kd.C_drew ?_))); (case side2 => exact (Kd.R_reads' HO107.out).2.1); rintro e w' ⟨rfl, ⟨nd, rfl⟩⟩; refine ⟨_, rfl, ?_⟩; have hcz33_0 : w30.cell? ⟨gb104, 0, none⟩ = some (.int .i64 a0_0) := (blk_cell BK104.out 0).trans rfl; have hcz33_1 : w30.cell? ⟨gb104, 1, none⟩ = some (.int .i64 a0_1) := (blk_cell BK104.out 1).trans rfl; have hcz33_2 : w30.cell? ⟨gb104, 2, none⟩ = some (.int .u32 a0_2) := (blk_cell BK104.out 2).trans rfl; have hcz33_3 : w30.cell? ⟨gb104, 3, none⟩ = some (.int .u32 a0_3) := (blk_cell BK104.out 3).trans rfl; have hcz33_4 : w30.cell? ⟨gb104, 4, none⟩ = some (.int .i64 a0_4) := (blk_cell BK104.out 4).trans rfl; have hcz33_5 : w30.cell? ⟨gb104, 5, none⟩ = some (.int .i64 a0_5) := (blk_cell BK104.out 5).trans rfl; have hcz33_6 : w30.cell? ⟨gb104, 6, none⟩ = some (.int .i64 a0_6) := (blk_cell BK104.out 6).trans rfl; have hcz33_7 : w30.cell? ⟨gb104, 7, none⟩ = some (.string a0_7) := (blk_cell BK104.out 7).trans rfl; have hfz33_0 := blk_frozen BK104.out 0; have hfz33_1 := blk_frozen BK104.out 1; have hfz33_2 := blk_frozen BK104.out 2; have hfz33_3 := blk_frozen BK104.out 3; have hfz33_4 := blk_frozen BK104.out 4; have hfz33_5 := blk_frozen BK104.out 5; have hfz33_6 := blk_frozen BK104.out 6; have hfz33_7 := blk_frozen BK104.out 7))
        go_ret
        exact ⟨by first | rfl | (simp [errW_none, errW_some] <;> rfl) | (simp [*, errW_none, errW_some] <;> rfl), by repeat (first | (with_reducible first | exact HB.out | apply below_alloc | apply pw_below_drewN | apply below_drew1 | refine below_set ?_ GE104.out) | exact HB.out)⟩
    · rw [if_neg c4] at H
      have c4b0 : decide (0 ≤ a0_4) = false := decide_eq_false c4
      clear c4
      obtain rfl := Option.some.inj H
      go_enter Try.func14, Try.ntmps14
      go_wp2_with (first | ((with_reducible refine gate_dst (N := 1) rfl ?_); (try (refine gate_guard (by rfl) ?_; dsimp only)); refine box_event ?hg (N := 1) ?hd (cs := #[.int .i64 a0_0, .int .i64 a0_1, .int .u32 a0_2, .int .u32 a0_3, .int .i64 a0_4, .int .i64 a0_5, .int .i64 a0_6, .string a0_7]) (t := 24) ?hr ?_; (case hd => rfl); (case hg => rfl); (case hr => first | (go_simp; done) | (go_simp; rfl)); intro gb104 hg w34 hbox hb; have n0_ := Aside0.mk (below_step (by repeat (first | (with_reducible first | exact HB.out | apply below_alloc | apply pw_below_drewN | apply below_drew1) | exact HB.out)) hb); have n1_ := Aside0.mk (hbox); have n2_ := Aside0.mk ((by rw [hg]; exact (below_size (by repeat (first | (with_reducible first | exact HB.out | apply below_alloc | apply pw_below_drewN | apply below_drew1) | exact HB.out))) : w.heap.size ≤ gb104)); have n3_ := Aside0.mk ((by rw [hg]; exact (below_size (by repeat (first | (with_reducible first | exact HB.out | apply below_alloc | apply pw_below_drewN | apply below_drew1) | exact HB.out))) : w.heap.size ≤ gb104)); clear HB; have HB := n0_; have BK104 := n1_; have GW104 := n2_; have GE104 := n3_; clear n0_ n1_ n2_ n3_; clear hb hbox hg; have hcz35_0 : w34.cell? ⟨gb104, 0, none⟩ = some (.int .i64 a0_0) := (blk_cell BK104.out 0).trans rfl; have hcz35_1 : w34.cell? ⟨gb104, 1, none⟩ = some (.int .i64 a0_1) := (blk_cell BK104.out 1).trans rfl; have hcz35_2 : w34.cell? ⟨gb104, 2, none⟩ = some (.int .u32 a0_2) := (blk_cell BK104.out 2).trans rfl; have hcz35_3 : w34.cell? ⟨gb104, 3, none⟩ = some (.int .u32 a0_3) := (blk_cell BK104.out 3).trans rfl; have hcz35_4 : w34.cell? ⟨gb104, 4, none⟩ = some (.int .i64 a0_4) := (blk_cell BK104.out 4).trans rfl; have hcz35_5 : w34.cell? ⟨gb104, 5, none⟩ = some (.int .i64 a0_5) := (blk_cell BK104.out 5).trans rfl; have hcz35_6 : w34.cell? ⟨gb104, 6, none⟩ = some (.int .i64 a0_6) := (blk_cell BK104.out 6).trans rfl; have hcz35_7 : w34.cell? ⟨gb104, 7, none⟩ = some (.string a0_7) := (blk_cell BK104.out 7).trans rfl; have hfz35_0 := blk_frozen BK104.out 0; have hfz35_1 := blk_frozen BK104.out 1; have hfz35_2 := blk_frozen BK104.out 2; have hfz35_3 := blk_frozen BK104.out 3; have hfz35_4 := blk_frozen BK104.out 4; have hfz35_5 := blk_frozen BK104.out 5; have hfz35_6 := blk_frozen BK104.out 6; have hfz35_7 := blk_frozen BK104.out 7) | ((with_reducible refine gate_dst (N := 11) rfl ?_); (try (refine gate_guard (by rfl) ?_; dsimp only)); refine Kd.R_lit (Kd.int .i64) _ 3 ?hg (N := 11) ?hd (xs := ([a0_0, a0_1, a0_5, a0_6] : List Int)) (inner := [.int .i64 a0_0, .int .i64 a0_1, .int .i64 a0_5, .int .i64 a0_6]) (ok := fun _ => True) (okp := fun _ => True) ?hr ?hp (fun _ hk => hk) trivial (Below.refl _ _) (Nat.le_refl _) (by simp) ?_; (case hd => rfl); (case hg => rfl); (case hr => first | (go_simp; done) | (go_simp; rfl)); (case hp => exact (Reps.one (show Kd.M (Kd.int .i64) _ _ _ a0_0 [.int .i64 a0_0] from rfl) (Reps.one (show Kd.M (Kd.int .i64) _ _ _ a0_1 [.int .i64 a0_1] from rfl) (Reps.one (show Kd.M (Kd.int .i64) _ _ _ a0_5 [.int .i64 a0_5] from rfl) (Reps.one (show Kd.M (Kd.int .i64) _ _ _ a0_6 [.int .i64 a0_6] from rfl) (Reps.none _ _)))))); intro v106 w36 ho37 hb hg_ hnew_; clear hg_ hnew_; (first | rw [← Ny105.out] at ho37 | (simp only [Int.reduceToNat] at ho37; rw [← Ny105.out] at ho37)); have n0_ := Aside0.mk (Kd.R_lower ho37 (below_size (by repeat (first | (with_reducible first | exact HB.out | apply below_alloc | apply pw_below_drewN | apply below_drew1 | refine below_set ?_ GE104.out) | exact HB.out)))); have n1_ := Aside0.mk (blk_below (g := gb104) (o := .cells #[.int .i64 a0_0, .int .i64 a0_1, .int .u32 a0_2, .int .u32 a0_3, .int .i64 a0_4, .int .i64 a0_5, .int .i64 a0_6, .string a0_7] 24 (0, 0)) (by (with_reducible repeat (first | refine blk_drewN ?_ _ | refine blk_drew ?_ | refine blk_alloc ?_ _)); exact BK104.out) hb); have n2_ := Aside0.mk (below_step (by repeat (first | (with_reducible first | exact HB.out | apply below_alloc | apply pw_below_drewN | apply below_drew1 | refine below_set ?_ GE104.out) | exact HB.out)) hb); clear BK104; clear HB; have HO107 := n0_; have BK104 := n1_; have HB := n2_; clear n0_ n1_ n2_; clear hb ho37; obtain ⟨Ao38, co38, eo38⟩ := Kd.R_slice HO107.out; subst eo38) | ((with_reducible refine gate_callee (f := 24) rfl ?_); refine goesL_ (some 12) rfl rfl Try.func24 (by kernel_rfl) rfl #[.slice Ao38 y105.length co38] rfl (by (try simp only [List.map_toArray, List.map_cons, List.map_nil]); first | done | rfl | (simp only [List.length_drop, List.length_take]; rfl)) ?_; (with_reducible refine (tcp_word.calls k _ _ y105 true _ ?side1 ?side2 A2.out).mono ?_); (case side1 => repeat (first | exact (Kd.R_reads' HO107.out).2.2 | (with_reducible refine Kd.C_alloc ?_ _) | (with_reducible refine Kd.C_drewN ?_ _) | (with_reducible refine Kd.C_drew ?_))); (case side2 => exact (Kd.R_reads' HO107.out).2.1); rintro e w' ⟨rfl, ⟨nd, rfl⟩⟩; refine ⟨_, rfl, ?_⟩; have hcz39_0 : w36.cell? ⟨gb104, 0, none⟩ = some (.int .i64 a0_0) := (blk_cell BK104.out 0).trans rfl; have hcz39_1 : w36.cell? ⟨gb104, 1, none⟩ = some (.int .i64 a0_1) := (blk_cell BK104.out 1).trans rfl; have hcz39_2 : w36.cell? ⟨gb104, 2, none⟩ = some (.int .u32 a0_2) := (blk_cell BK104.out 2).trans rfl; have hcz39_3 : w36.cell? ⟨gb104, 3, none⟩ = some (.int .u32 a0_3) := (blk_cell BK104.out 3).trans rfl; have hcz39_4 : w36.cell? ⟨gb104, 4, none⟩ = some (.int .i64 a0_4) := (blk_cell BK104.out 4).trans rfl; have hcz39_5 : w36.cell? ⟨gb104, 5, none⟩ = some (.int .i64 a0_5) := (blk_cell BK104.out 5).trans rfl; have hcz39_6 : w36.cell? ⟨gb104, 6, none⟩ = some (.int .i64 a0_6) := (blk_cell BK104.out 6).trans rfl; have hcz39_7 : w36.cell? ⟨gb104, 7, none⟩ = some (.string a0_7) := (blk_cell BK104.out 7).trans rfl; have hfz39_0 := blk_frozen BK104.out 0; have hfz39_1 := blk_frozen BK104.out 1; have hfz39_2 := blk_frozen BK104.out 2; have hfz39_3 := blk_frozen BK104.out 3; have hfz39_4 := blk_frozen BK104.out 4; have hfz39_5 := blk_frozen BK104.out 5; have hfz39_6 := blk_frozen BK104.out 6; have hfz39_7 := blk_frozen BK104.out 7))
      go_ret
      exact ⟨by first | rfl | (simp [errW_none, errW_some] <;> rfl) | (simp [*, errW_none, errW_some] <;> rfl), by repeat (first | (with_reducible first | exact HB.out | apply below_alloc | apply pw_below_drewN | apply below_drew1 | refine below_set ?_ GE104.out) | exact HB.out)⟩
  · replace c3 := Bool.eq_false_iff.mpr c3
    subst c3
    have H1 : (some false) = some r := by rw [if_neg (show ¬ (false = true) by decide)] at H; exact H
    clear H
    have H := H1
    clear H1
    obtain rfl := Option.some.inj H
    go_enter Try.func14, Try.ntmps14
    go_wp2_with (first | ((with_reducible refine gate_dst (N := 1) rfl ?_); (try (refine gate_guard (by rfl) ?_; dsimp only)); refine box_event ?hg (N := 1) ?hd (cs := #[.int .i64 a0_0, .int .i64 a0_1, .int .u32 a0_2, .int .u32 a0_3, .int .i64 a0_4, .int .i64 a0_5, .int .i64 a0_6, .string a0_7]) (t := 24) ?hr ?_; (case hd => rfl); (case hg => rfl); (case hr => first | (go_simp; done) | (go_simp; rfl)); intro gb104 hg w40 hbox hb; have n0_ := Aside0.mk (below_step (by repeat (first | (with_reducible first | exact HB.out | apply below_alloc | apply pw_below_drewN | apply below_drew1) | exact HB.out)) hb); have n1_ := Aside0.mk (hbox); have n2_ := Aside0.mk ((by rw [hg]; exact (below_size (by repeat (first | (with_reducible first | exact HB.out | apply below_alloc | apply pw_below_drewN | apply below_drew1) | exact HB.out))) : w.heap.size ≤ gb104)); have n3_ := Aside0.mk ((by rw [hg]; exact (below_size (by repeat (first | (with_reducible first | exact HB.out | apply below_alloc | apply pw_below_drewN | apply below_drew1) | exact HB.out))) : w.heap.size ≤ gb104)); clear HB; have HB := n0_; have BK104 := n1_; have GW104 := n2_; have GE104 := n3_; clear n0_ n1_ n2_ n3_; clear hb hbox hg; have hcz41_0 : w40.cell? ⟨gb104, 0, none⟩ = some (.int .i64 a0_0) := (blk_cell BK104.out 0).trans rfl; have hcz41_1 : w40.cell? ⟨gb104, 1, none⟩ = some (.int .i64 a0_1) := (blk_cell BK104.out 1).trans rfl; have hcz41_2 : w40.cell? ⟨gb104, 2, none⟩ = some (.int .u32 a0_2) := (blk_cell BK104.out 2).trans rfl; have hcz41_3 : w40.cell? ⟨gb104, 3, none⟩ = some (.int .u32 a0_3) := (blk_cell BK104.out 3).trans rfl; have hcz41_4 : w40.cell? ⟨gb104, 4, none⟩ = some (.int .i64 a0_4) := (blk_cell BK104.out 4).trans rfl; have hcz41_5 : w40.cell? ⟨gb104, 5, none⟩ = some (.int .i64 a0_5) := (blk_cell BK104.out 5).trans rfl; have hcz41_6 : w40.cell? ⟨gb104, 6, none⟩ = some (.int .i64 a0_6) := (blk_cell BK104.out 6).trans rfl; have hcz41_7 : w40.cell? ⟨gb104, 7, none⟩ = some (.string a0_7) := (blk_cell BK104.out 7).trans rfl; have hfz41_0 := blk_frozen BK104.out 0; have hfz41_1 := blk_frozen BK104.out 1; have hfz41_2 := blk_frozen BK104.out 2; have hfz41_3 := blk_frozen BK104.out 3; have hfz41_4 := blk_frozen BK104.out 4; have hfz41_5 := blk_frozen BK104.out 5; have hfz41_6 := blk_frozen BK104.out 6; have hfz41_7 := blk_frozen BK104.out 7) | ((with_reducible refine gate_dst (N := 11) rfl ?_); (try (refine gate_guard (by rfl) ?_; dsimp only)); refine Kd.R_lit (Kd.int .i64) _ 3 ?hg (N := 11) ?hd (xs := ([a0_0, a0_1, a0_5, a0_6] : List Int)) (inner := [.int .i64 a0_0, .int .i64 a0_1, .int .i64 a0_5, .int .i64 a0_6]) (ok := fun _ => True) (okp := fun _ => True) ?hr ?hp (fun _ hk => hk) trivial (Below.refl _ _) (Nat.le_refl _) (by simp) ?_; (case hd => rfl); (case hg => rfl); (case hr => first | (go_simp; done) | (go_simp; rfl)); (case hp => exact (Reps.one (show Kd.M (Kd.int .i64) _ _ _ a0_0 [.int .i64 a0_0] from rfl) (Reps.one (show Kd.M (Kd.int .i64) _ _ _ a0_1 [.int .i64 a0_1] from rfl) (Reps.one (show Kd.M (Kd.int .i64) _ _ _ a0_5 [.int .i64 a0_5] from rfl) (Reps.one (show Kd.M (Kd.int .i64) _ _ _ a0_6 [.int .i64 a0_6] from rfl) (Reps.none _ _)))))); intro v106 w42 ho43 hb hg_ hnew_; clear hg_ hnew_; (first | rw [← Ny105.out] at ho43 | (simp only [Int.reduceToNat] at ho43; rw [← Ny105.out] at ho43)); have n0_ := Aside0.mk (Kd.R_lower ho43 (below_size (by repeat (first | (with_reducible first | exact HB.out | apply below_alloc | apply pw_below_drewN | apply below_drew1 | refine below_set ?_ GE104.out) | exact HB.out)))); have n1_ := Aside0.mk (blk_below (g := gb104) (o := .cells #[.int .i64 a0_0, .int .i64 a0_1, .int .u32 a0_2, .int .u32 a0_3, .int .i64 a0_4, .int .i64 a0_5, .int .i64 a0_6, .string a0_7] 24 (0, 0)) (by (with_reducible repeat (first | refine blk_drewN ?_ _ | refine blk_drew ?_ | refine blk_alloc ?_ _)); exact BK104.out) hb); have n2_ := Aside0.mk (below_step (by repeat (first | (with_reducible first | exact HB.out | apply below_alloc | apply pw_below_drewN | apply below_drew1 | refine below_set ?_ GE104.out) | exact HB.out)) hb); clear BK104; clear HB; have HO107 := n0_; have BK104 := n1_; have HB := n2_; clear n0_ n1_ n2_; clear hb ho43; obtain ⟨Ao44, co44, eo44⟩ := Kd.R_slice HO107.out; subst eo44) | ((with_reducible refine gate_callee (f := 24) rfl ?_); refine goesL_ (some 12) rfl rfl Try.func24 (by kernel_rfl) rfl #[.slice Ao44 y105.length co44] rfl (by (try simp only [List.map_toArray, List.map_cons, List.map_nil]); first | done | rfl | (simp only [List.length_drop, List.length_take]; rfl)) ?_; (with_reducible refine (tcp_word.calls k _ _ y105 false _ ?side1 ?side2 A2.out).mono ?_); (case side1 => repeat (first | exact (Kd.R_reads' HO107.out).2.2 | (with_reducible refine Kd.C_alloc ?_ _) | (with_reducible refine Kd.C_drewN ?_ _) | (with_reducible refine Kd.C_drew ?_))); (case side2 => exact (Kd.R_reads' HO107.out).2.1); rintro e w' ⟨rfl, ⟨nd, rfl⟩⟩; refine ⟨_, rfl, ?_⟩))
    go_ret
    exact ⟨by first | rfl | (simp [errW_none, errW_some] <;> rfl) | (simp [*, errW_none, errW_some] <;> rfl), by repeat (first | (with_reducible first | exact HB.out | apply below_alloc | apply pw_below_drewN | apply below_drew1 | refine below_set ?_ GE104.out) | exact HB.out)⟩

theorem tcp_word_step (l : List Int) (n i : Int) (k : Nat) (h0 : 0 ≤ i) (h1 : i < n) (h2 : i < l.length) (h3 : i < 1000) :
    tcp_word.l0 (k + 1) l n i = if rd l i < 0 then some false else if rd l i > 65535 then some false else tcp_word.l0 k l n (i + 1) := by
  rw [tcp_word.l0, if_pos h1, if_pos h0, if_pos h2, wrap_id (by omega) (by omega)]
theorem tcp_word4 (a b c d : Int) : tcp_word.f 5 [a, b, c, d] = some (Sp.fits 2 a && Sp.fits 2 b && Sp.fits 2 c && Sp.fits 2 d) := by
  unfold tcp_word.f
  show tcp_word.l0 5 [a, b, c, d] 4 0 = _
  rw [tcp_word_step _ _ _ _ (by decide) (by decide) (by simp) (by decide), show rd [a, b, c, d] 0 = a from rfl]
  have f : ∀ n, Sp.fits 2 n = decide (0 ≤ n ∧ n ≤ 65535) := fun n => Sp.fits2_b
  rw [f, f, f, f]
  by_cases ha : a < 0
  · rw [if_pos ha, decide_eq_false (by omega : ¬ (0 ≤ a ∧ a ≤ 65535))]; rfl
  · rw [if_neg ha]
    by_cases ha' : a > 65535
    · rw [if_pos ha', decide_eq_false (by omega : ¬ (0 ≤ a ∧ a ≤ 65535))]; rfl
    · rw [if_neg ha', decide_eq_true (by omega : 0 ≤ a ∧ a ≤ 65535), tcp_word_step _ _ _ _ (by decide) (by decide) (by simp) (by decide), show rd [a, b, c, d] (0 + 1) = b from rfl]
      by_cases hb : b < 0
      · rw [if_pos hb, decide_eq_false (by omega : ¬ (0 ≤ b ∧ b ≤ 65535))]; rfl
      · rw [if_neg hb]
        by_cases hb' : b > 65535
        · rw [if_pos hb', decide_eq_false (by omega : ¬ (0 ≤ b ∧ b ≤ 65535))]; rfl
        · rw [if_neg hb', decide_eq_true (by omega : 0 ≤ b ∧ b ≤ 65535), tcp_word_step _ _ _ _ (by decide) (by decide) (by simp) (by decide), show rd [a, b, c, d] (0 + 1 + 1) = c from rfl]
          by_cases hc : c < 0
          · rw [if_pos hc, decide_eq_false (by omega : ¬ (0 ≤ c ∧ c ≤ 65535))]; rfl
          · rw [if_neg hc]
            by_cases hc' : c > 65535
            · rw [if_pos hc', decide_eq_false (by omega : ¬ (0 ≤ c ∧ c ≤ 65535))]; rfl
            · rw [if_neg hc', decide_eq_true (by omega : 0 ≤ c ∧ c ≤ 65535), tcp_word_step _ _ _ _ (by decide) (by decide) (by simp) (by decide), show rd [a, b, c, d] (0 + 1 + 1 + 1) = d from rfl]
              by_cases hd : d < 0
              · rw [if_pos hd, decide_eq_false (by omega : ¬ (0 ≤ d ∧ d ≤ 65535))]; rfl
              · rw [if_neg hd]
                by_cases hd' : d > 65535
                · rw [if_pos hd', decide_eq_false (by omega : ¬ (0 ≤ d ∧ d ≤ 65535))]; rfl
                · rw [if_neg hd', decide_eq_true (by omega : 0 ≤ d ∧ d ≤ 65535), tcp_word.l0, if_neg (by decide)]; rfl
def tcp_Right.f (a0_0 a0_1 a0_2 a0_3 a0_4 a0_5 a0_6 : Int) (a0_7 : ByteArray) : Option Bool := if a0_7.size ≤ 140737488355328 then some (Sp.tcpRight a0_0 a0_1 a0_4 a0_5 a0_6 (bl a0_7)) else none
theorem tcp_Right_eq {a0_0 a0_1 a0_2 a0_3 a0_4 a0_5 a0_6 : Int} {a0_7 : ByteArray} (h : a0_7.size ≤ 140737488355328) : tcp_Right.f a0_0 a0_1 a0_2 a0_3 a0_4 a0_5 a0_6 a0_7 = some (Sp.tcpRight a0_0 a0_1 a0_4 a0_5 a0_6 (bl a0_7)) := by unfold tcp_Right.f; exact if_pos h
theorem tcp_right_no {a b c d e : Int} {o : List UInt8} (h : ¬ Sp.tcpRight a b c d e o = true) : Sp.tcpRight a b c d e o = false := Sp.bool_no h
theorem tcp_Right_ev (a0_0 a0_1 a0_2 a0_3 a0_4 a0_5 a0_6 : Int) (a0_7 : ByteArray) (r : Bool) (h : tcp_Right.f a0_0 a0_1 a0_2 a0_3 a0_4 a0_5 a0_6 a0_7 = some r) : ∃ k, tcp_Right_p.f k a0_0 a0_1 a0_2 a0_3 a0_4 a0_5 a0_6 a0_7 = some r := by
  unfold tcp_Right.f at h
  split at h
  case isFalse => cases h
  case isTrue hs =>
    refine ⟨5, ?_⟩
    rw [← h]
    unfold tcp_Right_p.f
    rw [tcp_word4, Option.bind_some]
    have hl := bl_length a0_7
    by_cases h1 : (Sp.fits 2 a0_0 && Sp.fits 2 a0_1 && Sp.fits 2 a0_5 && Sp.fits 2 a0_6) = true
    · rw [if_pos h1]
      simp only [Bool.and_eq_true] at h1
      by_cases h2 : a0_4 ≥ 0
      · rw [if_pos h2]
        by_cases h3 : a0_4 < 4096
        · rw [if_pos h3]
          by_cases h4 : (a0_7.size : Int) ≤ 40
          · rw [if_pos h4]
            by_cases h5 : ((a0_7.size : Int) % 4) = 0
            · rw [if_pos h5, tcp_OptsRight_eq hs, Option.bind_some]
              by_cases h6 : Sp.optsOk (bl a0_7) = true
              · rw [h6, Sp.tcpRight_iff.2 ⟨h1.1.1.1, h1.1.1.2, h1.1.2, h1.2, ⟨by omega, by omega⟩, ⟨by omega, by omega⟩, h6⟩]
              · rw [Sp.bool_no h6, tcp_right_no (fun h => h6 (Sp.tcpRight_iff.1 h).2.2.2.2.2.2)]
            · rw [if_neg h5, tcp_right_no (fun h => by have := (Sp.tcpRight_iff.1 h).2.2.2.2.2.1; omega)]
          · rw [if_neg h4, tcp_right_no (fun h => by have := (Sp.tcpRight_iff.1 h).2.2.2.2.2.1; omega)]
        · rw [if_neg h3, tcp_right_no (fun h => by have := (Sp.tcpRight_iff.1 h).2.2.2.2.1; omega)]
      · rw [if_neg h2, tcp_right_no (fun h => by have := (Sp.tcpRight_iff.1 h).2.2.2.2.1; omega)]
    · rw [if_neg h1, tcp_right_no (fun h => h1 (by have := Sp.tcpRight_iff.1 h; simp only [Bool.and_eq_true]; exact ⟨⟨⟨this.1, this.2.1⟩, this.2.2.1⟩, this.2.2.2.1⟩))]
theorem tcp_Right.calls (a0_0 : Int) (a0_1 : Int) (a0_2 : Int) (a0_3 : Int) (a0_4 : Int) (a0_5 : Int) (a0_6 : Int) (a0_7 : ByteArray) (r : Bool) (w : World) (h : tcp_Right.f a0_0 a0_1 a0_2 a0_3 a0_4 a0_5 a0_6 a0_7 = some r) :
    Calls Try.prog 14 #[.agg #[.int .i64 a0_0, .int .i64 a0_1, .int .u32 a0_2, .int .u32 a0_3, .int .i64 a0_4, .int .i64 a0_5, .int .i64 a0_6, .string a0_7]] w fun e w' => e = .returned (.bool r) ∧ Below w.heap.size w w' := by
  obtain ⟨k, hk⟩ := tcp_Right_ev a0_0 a0_1 a0_2 a0_3 a0_4 a0_5 a0_6 a0_7 _ h
  exact tcp_Right_p.calls k a0_0 a0_1 a0_2 a0_3 a0_4 a0_5 a0_6 a0_7 r w hk

/-! ### tcp_Build_p: function 11 -/
def tcp_Build_p.l0 : Nat → ByteArray → ByteArray → List (S50) → Int → Int → Int → Int → Int → Int → Int → Int → Int → ByteArray → Option (ByteArray × Int)
  | 0, _, _, _, _, _, _, _, _, _, _, _, _, _ => none
  | k + 1, x1, x7, x52, x53, x54, x115000, x115001, x115002, x115003, x115004, x115005, x115006, x115007 => if x54 < x53 then (if 0 ≤ x54 then (if x54 < (x52.length : Int) then ((octet_Put.f ((rd_T50 x52 x54).f0) ((rd_T50 x52 x54).f1)).bind fun bt121 => (if x7.size + bt121.1.size ≤ 9223372036854775807 then (tcp_Build_p.l0 k x1 (x7 ++ bt121.1) x52 x53 (wrap64 (x54 + 1)) x115000 x115001 x115002 x115003 x115004 x115005 x115006 x115007) else (none))) else (none)) else (none)) else (if x7.size + x115007.size ≤ 9223372036854775807 then (if (x7 ++ x115007).size + x1.size ≤ 9223372036854775807 then (some ((x7 ++ x115007) ++ x1, 0)) else (none)) else (none))
def tcp_Build_p.f (k : Nat) (a0_0 : Int) (a0_1 : Int) (a0_2 : Int) (a0_3 : Int) (a0_4 : Int) (a0_5 : Int) (a0_6 : Int) (a0_7 : ByteArray) (a1 : ByteArray) : Option (ByteArray × Int) := (tcp_Right.f a0_0 a0_1 a0_2 a0_3 a0_4 a0_5 a0_6 a0_7).bind fun t115 => (if t115 = true then (if (wrap64 ((wrap64 (20 + (a0_7.size : Int))) + (a1.size : Int))) > 1500 then (some ((⟨#[]⟩ : ByteArray), 18)) else ((some (([(⟨2, a0_0⟩ : S50), (⟨2, a0_1⟩ : S50), (⟨4, wrap64 (a0_2)⟩ : S50), (⟨4, wrap64 (a0_3)⟩ : S50), (⟨2, Go.bits .or .i64 (wrap64 ((wrap64 (Int.tdiv (wrap64 (20 + (a0_7.size : Int))) 4)) * 4096)) a0_4⟩ : S50), (⟨2, a0_5⟩ : S50), (⟨2, 0⟩ : S50), (⟨2, a0_6⟩ : S50)] : List (S50)) : List (S50))).bind fun y116 => (tcp_Build_p.l0 k a1 (⟨#[]⟩ : ByteArray) y116 (y116.length : Int) 0 a0_0 a0_1 a0_2 a0_3 a0_4 a0_5 a0_6 a0_7))) else (some ((⟨#[]⟩ : ByteArray), 1)))
theorem tcp_Build_p.mono_l : ∀ k, (∀ y0 y1 y2 y3 y4 y5 y6 y7 y8 y9 y10 y11 y12, LeO (tcp_Build_p.l0 k y0 y1 y2 y3 y4 y5 y6 y7 y8 y9 y10 y11 y12) (tcp_Build_p.l0 (k + 1) y0 y1 y2 y3 y4 y5 y6 y7 y8 y9 y10 y11 y12))
  | 0 => fun _ _ _ _ _ _ _ _ _ _ _ _ _ r h => by simp [tcp_Build_p.l0] at h
  | k + 1 => by
    have ih0 := tcp_Build_p.mono_l k
    · intro y0 y1 y2 y3 y4 y5 y6 y7 y8 y9 y10 y11 y12
      unfold tcp_Build_p.l0
      repeat' first
      | (with_reducible exact ih0 _ _ _ _ _ _ _ _ _ _ _ _ _)
      | (with_reducible exact LeO.refl _)
      | (with_reducible exact LeO.none _)
      | (with_reducible refine LeO.ite ?_ ?_)
      | (with_reducible refine LeO.bind ?_ (fun _ => ?_))
      | exact ih0 _ _ _ _ _ _ _ _ _ _ _ _ _
      | exact LeO.none _
      | refine LeO.ite ?_ ?_
      | refine LeO.bind ?_ (fun _ => ?_)
theorem tcp_Build_p.mono : ∀ a0 a1 a2 a3 a4 a5 a6 a7 a8 k, LeO (tcp_Build_p.f k a0 a1 a2 a3 a4 a5 a6 a7 a8) (tcp_Build_p.f (k + 1) a0 a1 a2 a3 a4 a5 a6 a7 a8) := by
  intro a0 a1 a2 a3 a4 a5 a6 a7 a8 k
  have ih0 := tcp_Build_p.mono_l k
  unfold tcp_Build_p.f
  repeat' first
      | (with_reducible exact ih0 _ _ _ _ _ _ _ _ _ _ _ _ _)
      | (with_reducible exact LeO.refl _)
      | (with_reducible exact LeO.none _)
      | (with_reducible refine LeO.ite ?_ ?_)
      | (with_reducible refine LeO.bind ?_ (fun _ => ?_))
      | exact ih0 _ _ _ _ _ _ _ _ _ _ _ _ _
      | exact LeO.none _
      | refine LeO.ite ?_ ?_
      | refine LeO.bind ?_ (fun _ => ?_)
set_option maxHeartbeats 8000000 in
set_option maxRecDepth 100000 in
theorem tcp_Build_p.calls (k : Nat) (a0_0 : Int) (a0_1 : Int) (a0_2 : Int) (a0_3 : Int) (a0_4 : Int) (a0_5 : Int) (a0_6 : Int) (a0_7 : ByteArray) (a1 : ByteArray) (r1 : ByteArray) (r2 : Int) (w : World) (h : tcp_Build_p.f k a0_0 a0_1 a0_2 a0_3 a0_4 a0_5 a0_6 a0_7 a1 = some (r1, r2)) :
    Calls Try.prog 11 #[.agg #[.int .i64 a0_0, .int .i64 a0_1, .int .u32 a0_2, .int .u32 a0_3, .int .i64 a0_4, .int .i64 a0_5, .int .i64 a0_6, .string a0_7], .string a1] w fun e w' => e = .returned (.tuple #[.string r1, .int .i64 r2]) ∧ Below w.heap.size w w' := by
  have hu24 := Try.underlying24
  have hu50 := Try.underlying50
  have HB := Aside0.mk (Below.refl w.heap.size w)
  have H : ((tcp_Right.f a0_0 a0_1 a0_2 a0_3 a0_4 a0_5 a0_6 a0_7).bind fun t115 => (if t115 = true then (if (wrap64 ((wrap64 (20 + (a0_7.size : Int))) + (a1.size : Int))) > 1500 then (some ((⟨#[]⟩ : ByteArray), 18)) else ((some (([(⟨2, a0_0⟩ : S50), (⟨2, a0_1⟩ : S50), (⟨4, wrap64 (a0_2)⟩ : S50), (⟨4, wrap64 (a0_3)⟩ : S50), (⟨2, Go.bits .or .i64 (wrap64 ((wrap64 (Int.tdiv (wrap64 (20 + (a0_7.size : Int))) 4)) * 4096)) a0_4⟩ : S50), (⟨2, a0_5⟩ : S50), (⟨2, 0⟩ : S50), (⟨2, a0_6⟩ : S50)] : List (S50)) : List (S50))).bind fun y116 => (tcp_Build_p.l0 k a1 (⟨#[]⟩ : ByteArray) y116 (y116.length : Int) 0 a0_0 a0_1 a0_2 a0_3 a0_4 a0_5 a0_6 a0_7))) else (some ((⟨#[]⟩ : ByteArray), 1)))) = some (r1, r2) := h
  clear h
  replace H := Option.bind_eq_some_iff.mp H
  obtain ⟨t115, A30, H⟩ := H
  replace H : (if t115 = true then (if (wrap64 ((wrap64 (20 + (a0_7.size : Int))) + (a1.size : Int))) > 1500 then (some ((⟨#[]⟩ : ByteArray), 18)) else ((some (([(⟨2, a0_0⟩ : S50), (⟨2, a0_1⟩ : S50), (⟨4, wrap64 (a0_2)⟩ : S50), (⟨4, wrap64 (a0_3)⟩ : S50), (⟨2, Go.bits .or .i64 (wrap64 ((wrap64 (Int.tdiv (wrap64 (20 + (a0_7.size : Int))) 4)) * 4096)) a0_4⟩ : S50), (⟨2, a0_5⟩ : S50), (⟨2, 0⟩ : S50), (⟨2, a0_6⟩ : S50)] : List (S50)) : List (S50))).bind fun y116 => (tcp_Build_p.l0 k a1 (⟨#[]⟩ : ByteArray) y116 (y116.length : Int) 0 a0_0 a0_1 a0_2 a0_3 a0_4 a0_5 a0_6 a0_7))) else (some ((⟨#[]⟩ : ByteArray), 1))) = some (r1, r2) := H
  have A3 := Aside0.mk A30
  clear A30
  by_cases c4 : t115 = true
  · subst c4
    have H1 : (if (wrap64 ((wrap64 (20 + (a0_7.size : Int))) + (a1.size : Int))) > 1500 then (some ((⟨#[]⟩ : ByteArray), 18)) else ((some (([(⟨2, a0_0⟩ : S50), (⟨2, a0_1⟩ : S50), (⟨4, wrap64 (a0_2)⟩ : S50), (⟨4, wrap64 (a0_3)⟩ : S50), (⟨2, Go.bits .or .i64 (wrap64 ((wrap64 (Int.tdiv (wrap64 (20 + (a0_7.size : Int))) 4)) * 4096)) a0_4⟩ : S50), (⟨2, a0_5⟩ : S50), (⟨2, 0⟩ : S50), (⟨2, a0_6⟩ : S50)] : List (S50)) : List (S50))).bind fun y116 => (tcp_Build_p.l0 k a1 (⟨#[]⟩ : ByteArray) y116 (y116.length : Int) 0 a0_0 a0_1 a0_2 a0_3 a0_4 a0_5 a0_6 a0_7))) = some (r1, r2) := by first | (rw [if_pos rfl] at H; exact H) | (rw [if_pos trivial] at H; exact H)
    clear H
    have H := H1
    clear H1
    by_cases c5 : (wrap64 ((wrap64 (20 + (a0_7.size : Int))) + (a1.size : Int))) > 1500
    · rw [if_pos c5] at H
      have c5b0 : decide (1500 < (wrap64 ((wrap64 (20 + (a0_7.size : Int))) + (a1.size : Int)))) = true := decide_eq_true c5
      clear c5
      simp only [Option.some.injEq, Prod.mk.injEq] at H
      obtain ⟨rfl, rfl⟩ := H
      go_enter Try.func11, Try.ntmps11
      go_wp2_with (first | ((with_reducible refine gate_dst (N := 2) rfl ?_); refine box_event ?hg (N := 2) ?hd (cs := #[.int .i64 a0_0, .int .i64 a0_1, .int .u32 a0_2, .int .u32 a0_3, .int .i64 a0_4, .int .i64 a0_5, .int .i64 a0_6, .string a0_7]) (t := 24) ?hr ?_; (case hd => rfl); (case hg => rfl); (case hr => first | (go_simp; done) | (go_simp; rfl)); intro gb114 hg w6 hbox hb; have n0_ := Aside0.mk (below_step (by repeat (first | (with_reducible first | exact HB.out | apply below_alloc | apply pw_below_drewN | apply below_drew1) | exact HB.out)) hb); have n1_ := Aside0.mk (hbox); have n2_ := Aside0.mk ((by rw [hg]; exact (below_size (by repeat (first | (with_reducible first | exact HB.out | apply below_alloc | apply pw_below_drewN | apply below_drew1) | exact HB.out))) : w.heap.size ≤ gb114)); have n3_ := Aside0.mk ((by rw [hg]; exact (below_size (by repeat (first | (with_reducible first | exact HB.out | apply below_alloc | apply pw_below_drewN | apply below_drew1) | exact HB.out))) : w.heap.size ≤ gb114)); clear HB; have HB := n0_; have BK114 := n1_; have GW114 := n2_; have GE114 := n3_; clear n0_ n1_ n2_ n3_; clear hb hbox hg; have hcz7_0 : w6.cell? ⟨gb114, 0, none⟩ = some (.int .i64 a0_0) := (blk_cell BK114.out 0).trans rfl; have hcz7_1 : w6.cell? ⟨gb114, 1, none⟩ = some (.int .i64 a0_1) := (blk_cell BK114.out 1).trans rfl; have hcz7_2 : w6.cell? ⟨gb114, 2, none⟩ = some (.int .u32 a0_2) := (blk_cell BK114.out 2).trans rfl; have hcz7_3 : w6.cell? ⟨gb114, 3, none⟩ = some (.int .u32 a0_3) := (blk_cell BK114.out 3).trans rfl; have hcz7_4 : w6.cell? ⟨gb114, 4, none⟩ = some (.int .i64 a0_4) := (blk_cell BK114.out 4).trans rfl; have hcz7_5 : w6.cell? ⟨gb114, 5, none⟩ = some (.int .i64 a0_5) := (blk_cell BK114.out 5).trans rfl; have hcz7_6 : w6.cell? ⟨gb114, 6, none⟩ = some (.int .i64 a0_6) := (blk_cell BK114.out 6).trans rfl; have hcz7_7 : w6.cell? ⟨gb114, 7, none⟩ = some (.string a0_7) := (blk_cell BK114.out 7).trans rfl; have hfz7_0 := blk_frozen BK114.out 0; have hfz7_1 := blk_frozen BK114.out 1; have hfz7_2 := blk_frozen BK114.out 2; have hfz7_3 := blk_frozen BK114.out 3; have hfz7_4 := blk_frozen BK114.out 4; have hfz7_5 := blk_frozen BK114.out 5; have hfz7_6 := blk_frozen BK114.out 6; have hfz7_7 := blk_frozen BK114.out 7) | ((with_reducible refine gate_callee (f := 14) rfl ?_); refine goesL_ (some 13) rfl rfl Try.func14 (by kernel_rfl) rfl #[.agg #[.int .i64 a0_0, .int .i64 a0_1, .int .u32 a0_2, .int .u32 a0_3, .int .i64 a0_4, .int .i64 a0_5, .int .i64 a0_6, .string a0_7]] rfl (by (try simp only [List.map_toArray, List.map_cons, List.map_nil]); first | done | rfl | (simp only [List.length_drop, List.length_take]; rfl)) ?_; (with_reducible refine (tcp_Right.calls a0_0 a0_1 a0_2 a0_3 a0_4 a0_5 a0_6 a0_7 true _ A3.out).mono ?_); rintro e w8 ⟨rfl, hb⟩; (try clear A3); refine ⟨_, rfl, ?_⟩; have n0_ := Aside0.mk (blk_below (g := gb114) (o := .cells #[.int .i64 a0_0, .int .i64 a0_1, .int .u32 a0_2, .int .u32 a0_3, .int .i64 a0_4, .int .i64 a0_5, .int .i64 a0_6, .string a0_7] 24 (0, 0)) (by (with_reducible repeat (first | refine blk_drewN ?_ _ | refine blk_drew ?_ | refine blk_alloc ?_ _)); exact BK114.out) hb); have n1_ := Aside0.mk (below_step (by repeat (first | (with_reducible first | exact HB.out | apply below_alloc | apply pw_below_drewN | apply below_drew1 | refine below_set ?_ GE114.out) | exact HB.out)) hb); clear BK114; clear HB; have BK114 := n0_; have HB := n1_; clear n0_ n1_; (try clear hb); (try clear hb2); (try clear hk); (try clear hi); have hcz9_0 : w8.cell? ⟨gb114, 0, none⟩ = some (.int .i64 a0_0) := (blk_cell BK114.out 0).trans rfl; have hcz9_1 : w8.cell? ⟨gb114, 1, none⟩ = some (.int .i64 a0_1) := (blk_cell BK114.out 1).trans rfl; have hcz9_2 : w8.cell? ⟨gb114, 2, none⟩ = some (.int .u32 a0_2) := (blk_cell BK114.out 2).trans rfl; have hcz9_3 : w8.cell? ⟨gb114, 3, none⟩ = some (.int .u32 a0_3) := (blk_cell BK114.out 3).trans rfl; have hcz9_4 : w8.cell? ⟨gb114, 4, none⟩ = some (.int .i64 a0_4) := (blk_cell BK114.out 4).trans rfl; have hcz9_5 : w8.cell? ⟨gb114, 5, none⟩ = some (.int .i64 a0_5) := (blk_cell BK114.out 5).trans rfl; have hcz9_6 : w8.cell? ⟨gb114, 6, none⟩ = some (.int .i64 a0_6) := (blk_cell BK114.out 6).trans rfl; have hcz9_7 : w8.cell? ⟨gb114, 7, none⟩ = some (.string a0_7) := (blk_cell BK114.out 7).trans rfl; have hfz9_0 := blk_frozen BK114.out 0; have hfz9_1 := blk_frozen BK114.out 1; have hfz9_2 := blk_frozen BK114.out 2; have hfz9_3 := blk_frozen BK114.out 3; have hfz9_4 := blk_frozen BK114.out 4; have hfz9_5 := blk_frozen BK114.out 5; have hfz9_6 := blk_frozen BK114.out 6; have hfz9_7 := blk_frozen BK114.out 7))
      go_ret2
      exact ⟨by first | rfl | (simp [errW_none, errW_some] <;> rfl) | (simp [*, errW_none, errW_some] <;> rfl), by repeat (first | (with_reducible first | exact HB.out | apply below_alloc | apply pw_below_drewN | apply below_drew1 | refine below_set ?_ GE114.out) | exact HB.out)⟩
    · rw [if_neg c5] at H
      have c5b0 : decide (1500 < (wrap64 ((wrap64 (20 + (a0_7.size : Int))) + (a1.size : Int)))) = false := decide_eq_false c5
      clear c5
      obtain ⟨y116, hy116⟩ : ∃ y_ : List (S50), y_ = (([(⟨2, a0_0⟩ : S50), (⟨2, a0_1⟩ : S50), (⟨4, wrap64 (a0_2)⟩ : S50), (⟨4, wrap64 (a0_3)⟩ : S50), (⟨2, Go.bits .or .i64 (wrap64 ((wrap64 (Int.tdiv (wrap64 (20 + (a0_7.size : Int))) 4)) * 4096)) a0_4⟩ : S50), (⟨2, a0_5⟩ : S50), (⟨2, 0⟩ : S50), (⟨2, a0_6⟩ : S50)] : List (S50))) := ⟨_, rfl⟩
      replace H : (tcp_Build_p.l0 k a1 (⟨#[]⟩ : ByteArray) y116 (y116.length : Int) 0 a0_0 a0_1 a0_2 a0_3 a0_4 a0_5 a0_6 a0_7) = some (r1, r2) := by first | (rw [hy116]; with_reducible exact H) | (have H2_ := (Option.bind_some _ _).symm.trans H; rw [hy116]; with_reducible exact H2_) | (have H2_ := (Option.bind_some _ _).symm.trans H; with_reducible exact H2_) | with_reducible exact H | (rw [hy116]; exact H) | exact H
      have Ny116 := Aside0.mk hy116
      clear hy116
      have H' := Aside0.mk H
      clear H
      go_enter Try.func11, Try.ntmps11
      go_wp2_with (first | ((with_reducible refine gate_dst (N := 2) rfl ?_); refine box_event ?hg (N := 2) ?hd (cs := #[.int .i64 a0_0, .int .i64 a0_1, .int .u32 a0_2, .int .u32 a0_3, .int .i64 a0_4, .int .i64 a0_5, .int .i64 a0_6, .string a0_7]) (t := 24) ?hr ?_; (case hd => rfl); (case hg => rfl); (case hr => first | (go_simp; done) | (go_simp; rfl)); intro gb114 hg w10 hbox hb; have n0_ := Aside0.mk (below_step (by repeat (first | (with_reducible first | exact HB.out | apply below_alloc | apply pw_below_drewN | apply below_drew1) | exact HB.out)) hb); have n1_ := Aside0.mk (hbox); have n2_ := Aside0.mk ((by rw [hg]; exact (below_size (by repeat (first | (with_reducible first | exact HB.out | apply below_alloc | apply pw_below_drewN | apply below_drew1) | exact HB.out))) : w.heap.size ≤ gb114)); have n3_ := Aside0.mk ((by rw [hg]; exact (below_size (by repeat (first | (with_reducible first | exact HB.out | apply below_alloc | apply pw_below_drewN | apply below_drew1) | exact HB.out))) : w.heap.size ≤ gb114)); clear HB; have HB := n0_; have BK114 := n1_; have GW114 := n2_; have GE114 := n3_; clear n0_ n1_ n2_ n3_; clear hb hbox hg; have hcz11_0 : w10.cell? ⟨gb114, 0, none⟩ = some (.int .i64 a0_0) := (blk_cell BK114.out 0).trans rfl; have hcz11_1 : w10.cell? ⟨gb114, 1, none⟩ = some (.int .i64 a0_1) := (blk_cell BK114.out 1).trans rfl; have hcz11_2 : w10.cell? ⟨gb114, 2, none⟩ = some (.int .u32 a0_2) := (blk_cell BK114.out 2).trans rfl; have hcz11_3 : w10.cell? ⟨gb114, 3, none⟩ = some (.int .u32 a0_3) := (blk_cell BK114.out 3).trans rfl; have hcz11_4 : w10.cell? ⟨gb114, 4, none⟩ = some (.int .i64 a0_4) := (blk_cell BK114.out 4).trans rfl; have hcz11_5 : w10.cell? ⟨gb114, 5, none⟩ = some (.int .i64 a0_5) := (blk_cell BK114.out 5).trans rfl; have hcz11_6 : w10.cell? ⟨gb114, 6, none⟩ = some (.int .i64 a0_6) := (blk_cell BK114.out 6).trans rfl; have hcz11_7 : w10.cell? ⟨gb114, 7, none⟩ = some (.string a0_7) := (blk_cell BK114.out 7).trans rfl; have hfz11_0 := blk_frozen BK114.out 0; have hfz11_1 := blk_frozen BK114.out 1; have hfz11_2 := blk_frozen BK114.out 2; have hfz11_3 := blk_frozen BK114.out 3; have hfz11_4 := blk_frozen BK114.out 4; have hfz11_5 := blk_frozen BK114.out 5; have hfz11_6 := blk_frozen BK114.out 6; have hfz11_7 := blk_frozen BK114.out 7) | ((with_reducible refine gate_callee (f := 14) rfl ?_); refine goesL_ (some 13) rfl rfl Try.func14 (by kernel_rfl) rfl #[.agg #[.int .i64 a0_0, .int .i64 a0_1, .int .u32 a0_2, .int .u32 a0_3, .int .i64 a0_4, .int .i64 a0_5, .int .i64 a0_6, .string a0_7]] rfl (by (try simp only [List.map_toArray, List.map_cons, List.map_nil]); first | done | rfl | (simp only [List.length_drop, List.length_take]; rfl)) ?_; (with_reducible refine (tcp_Right.calls a0_0 a0_1 a0_2 a0_3 a0_4 a0_5 a0_6 a0_7 true _ A3.out).mono ?_); rintro e w12 ⟨rfl, hb⟩; (try clear A3); refine ⟨_, rfl, ?_⟩; have n0_ := Aside0.mk (blk_below (g := gb114) (o := .cells #[.int .i64 a0_0, .int .i64 a0_1, .int .u32 a0_2, .int .u32 a0_3, .int .i64 a0_4, .int .i64 a0_5, .int .i64 a0_6, .string a0_7] 24 (0, 0)) (by (with_reducible repeat (first | refine blk_drewN ?_ _ | refine blk_drew ?_ | refine blk_alloc ?_ _)); exact BK114.out) hb); have n1_ := Aside0.mk (below_step (by repeat (first | (with_reducible first | exact HB.out | apply below_alloc | apply pw_below_drewN | apply below_drew1 | refine below_set ?_ GE114.out) | exact HB.out)) hb); clear BK114; clear HB; have BK114 := n0_; have HB := n1_; clear n0_ n1_; (try clear hb); (try clear hb2); (try clear hk); (try clear hi); have hcz13_0 : w12.cell? ⟨gb114, 0, none⟩ = some (.int .i64 a0_0) := (blk_cell BK114.out 0).trans rfl; have hcz13_1 : w12.cell? ⟨gb114, 1, none⟩ = some (.int .i64 a0_1) := (blk_cell BK114.out 1).trans rfl; have hcz13_2 : w12.cell? ⟨gb114, 2, none⟩ = some (.int .u32 a0_2) := (blk_cell BK114.out 2).trans rfl; have hcz13_3 : w12.cell? ⟨gb114, 3, none⟩ = some (.int .u32 a0_3) := (blk_cell BK114.out 3).trans rfl; have hcz13_4 : w12.cell? ⟨gb114, 4, none⟩ = some (.int .i64 a0_4) := (blk_cell BK114.out 4).trans rfl; have hcz13_5 : w12.cell? ⟨gb114, 5, none⟩ = some (.int .i64 a0_5) := (blk_cell BK114.out 5).trans rfl; have hcz13_6 : w12.cell? ⟨gb114, 6, none⟩ = some (.int .i64 a0_6) := (blk_cell BK114.out 6).trans rfl; have hcz13_7 : w12.cell? ⟨gb114, 7, none⟩ = some (.string a0_7) := (blk_cell BK114.out 7).trans rfl; have hfz13_0 := blk_frozen BK114.out 0; have hfz13_1 := blk_frozen BK114.out 1; have hfz13_2 := blk_frozen BK114.out 2; have hfz13_3 := blk_frozen BK114.out 3; have hfz13_4 := blk_frozen BK114.out 4; have hfz13_5 := blk_frozen BK114.out 5; have hfz13_6 := blk_frozen BK114.out 6; have hfz13_7 := blk_frozen BK114.out 7) | ((with_reducible refine gate_dst (N := 52) rfl ?_); refine Kd.R_lit k50 _ 50 ?hg (N := 52) ?hd (xs := ([(⟨2, a0_0⟩ : S50), (⟨2, a0_1⟩ : S50), (⟨4, wrap64 (a0_2)⟩ : S50), (⟨4, wrap64 (a0_3)⟩ : S50), (⟨2, Go.bits .or .i64 (wrap64 ((wrap64 (Int.tdiv (wrap64 (20 + (a0_7.size : Int))) 4)) * 4096)) a0_4⟩ : S50), (⟨2, a0_5⟩ : S50), (⟨2, 0⟩ : S50), (⟨2, a0_6⟩ : S50)] : List (S50))) (inner := [.int .i64 2, .int .i64 a0_0, .int .i64 2, .int .i64 a0_1, .int .i64 4, .int .i64 (wrap64 (a0_2)), .int .i64 4, .int .i64 (wrap64 (a0_3)), .int .i64 2, .int .i64 (Go.bits .or .i64 (wrap64 ((wrap64 (Int.tdiv (wrap64 (20 + (a0_7.size : Int))) 4)) * 4096)) a0_4), .int .i64 2, .int .i64 a0_5, .int .i64 2, .int .i64 0, .int .i64 2, .int .i64 a0_6]) (ok := fun _ => True) (okp := fun _ => True) ?hr ?hp (fun _ hk => hk) trivial (Below.refl _ _) (Nat.le_refl _) (by simp) ?_; (case hd => rfl); (case hg => rfl); (case hr => first | (go_simp; done) | (go_simp; rfl)); (case hp => exact (Reps.c2 (show Kd.M k50 _ _ _ (⟨2, a0_0⟩ : S50) [.int .i64 2, .int .i64 a0_0] from (k50_mkM _ _ _ (⟨2, a0_0⟩ : S50) )) (Reps.c2 (show Kd.M k50 _ _ _ (⟨2, a0_1⟩ : S50) [.int .i64 2, .int .i64 a0_1] from (k50_mkM _ _ _ (⟨2, a0_1⟩ : S50) )) (Reps.c2 (show Kd.M k50 _ _ _ (⟨4, wrap64 (a0_2)⟩ : S50) [.int .i64 4, .int .i64 (wrap64 (a0_2))] from (k50_mkM _ _ _ (⟨4, wrap64 (a0_2)⟩ : S50) )) (Reps.c2 (show Kd.M k50 _ _ _ (⟨4, wrap64 (a0_3)⟩ : S50) [.int .i64 4, .int .i64 (wrap64 (a0_3))] from (k50_mkM _ _ _ (⟨4, wrap64 (a0_3)⟩ : S50) )) (Reps.c2 (show Kd.M k50 _ _ _ (⟨2, Go.bits .or .i64 (wrap64 ((wrap64 (Int.tdiv (wrap64 (20 + (a0_7.size : Int))) 4)) * 4096)) a0_4⟩ : S50) [.int .i64 2, .int .i64 (Go.bits .or .i64 (wrap64 ((wrap64 (Int.tdiv (wrap64 (20 + (a0_7.size : Int))) 4)) * 4096)) a0_4)] from (k50_mkM _ _ _ (⟨2, Go.bits .or .i64 (wrap64 ((wrap64 (Int.tdiv (wrap64 (20 + (a0_7.size : Int))) 4)) * 4096)) a0_4⟩ : S50) )) (Reps.c2 (show Kd.M k50 _ _ _ (⟨2, a0_5⟩ : S50) [.int .i64 2, .int .i64 a0_5] from (k50_mkM _ _ _ (⟨2, a0_5⟩ : S50) )) (Reps.c2 (show Kd.M k50 _ _ _ (⟨2, 0⟩ : S50) [.int .i64 2, .int .i64 0] from (k50_mkM _ _ _ (⟨2, 0⟩ : S50) )) (Reps.c2 (show Kd.M k50 _ _ _ (⟨2, a0_6⟩ : S50) [.int .i64 2, .int .i64 a0_6] from (k50_mkM _ _ _ (⟨2, a0_6⟩ : S50) )) (Reps.none _ _)))))))))); intro v117 w14 ho15 hb hg_ hnew_; clear hg_ hnew_; (first | rw [← Ny116.out] at ho15 | (simp only [Int.reduceToNat] at ho15; rw [← Ny116.out] at ho15)); have n0_ := Aside0.mk (Kd.R_lower ho15 (below_size (by repeat (first | (with_reducible first | exact HB.out | apply below_alloc | apply pw_below_drewN | apply below_drew1 | refine below_set ?_ GE114.out) | exact HB.out)))); have n1_ := Aside0.mk (blk_below (g := gb114) (o := .cells #[.int .i64 a0_0, .int .i64 a0_1, .int .u32 a0_2, .int .u32 a0_3, .int .i64 a0_4, .int .i64 a0_5, .int .i64 a0_6, .string a0_7] 24 (0, 0)) (by (with_reducible repeat (first | refine blk_drewN ?_ _ | refine blk_drew ?_ | refine blk_alloc ?_ _)); exact BK114.out) hb); have n2_ := Aside0.mk (below_step (by repeat (first | (with_reducible first | exact HB.out | apply below_alloc | apply pw_below_drewN | apply below_drew1 | refine below_set ?_ GE114.out) | exact HB.out)) hb); clear BK114; clear HB; have HO118 := n0_; have BK114 := n1_; have HB := n2_; clear n0_ n1_ n2_; clear hb ho15; obtain ⟨Ao16, co16, eo16⟩ := Kd.R_slice HO118.out; subst eo16))
      go_loopg [7, 54] k (fun kq v7 v54 w' => ∃ (x7_1 : ByteArray) (x54_1 : Int), v7 = .string x7_1 ∧ v54 = .int .i64 x54_1 ∧ Aside0 (tcp_Build_p.l0 kq a1 x7_1 y116 (y116.length : Int) x54_1 a0_0 a0_1 a0_2 a0_3 a0_4 a0_5 a0_6 a0_7 = some (r1, r2)) ∧ Aside0 (kq ≤ k) ∧ Aside0 (Kd.R k50 50 w' w.heap.size (fun _ => True) (.slice Ao16 y116.length co16) y116) ∧ Aside0 (w'.heap[gb114]? = some (.cells #[.int .i64 a0_0, .int .i64 a0_1, .int .u32 a0_2, .int .u32 a0_3, .int .i64 a0_4, .int .i64 a0_5, .int .i64 a0_6, .string a0_7] 24 (0, 0))) ∧ Aside0 (Below w.heap.size w w'))
      case atStart => exact ⟨((⟨#[]⟩ : ByteArray)), (0), (by first | rfl | (simp; done) | (simp [*]; done)), (by first | rfl | (simp; done) | (simp [*]; done)), H', ⟨Nat.le_refl _⟩, ⟨by (with_reducible repeat (first | apply Kd.R_alloc | apply Kd.R_drewN | apply Kd.R_drew)); exact HO118.out⟩, ⟨by (with_reducible repeat (first | refine blk_drewN ?_ _ | refine blk_drew ?_ | refine blk_alloc ?_ _)); exact BK114.out⟩, ⟨by repeat (first | (with_reducible first | exact HB.out | apply below_alloc | apply pw_below_drewN | apply below_drew1 | refine below_set ?_ GE114.out) | exact HB.out)⟩⟩
      case round =>
        clear H'
        try clear c1
        try clear c2
        try clear p2
        try clear c4
        try clear c5
        try clear c5b0
        try clear p6
        try clear c11
        try clear c14
        try clear hcz11_0
        try clear hcz11_1
        try clear hcz11_2
        try clear hcz11_3
        try clear hcz11_4
        try clear hcz11_5
        try clear hcz11_6
        try clear hcz11_7
        try clear hcz13_0
        try clear hcz13_1
        try clear hcz13_2
        try clear hcz13_3
        try clear hcz13_4
        try clear hcz13_5
        try clear hcz13_6
        try clear hcz13_7
        try clear hcz7_0
        try clear hcz7_1
        try clear hcz7_2
        try clear hcz7_3
        try clear hcz7_4
        try clear hcz7_5
        try clear hcz7_6
        try clear hcz7_7
        try clear hcz9_0
        try clear hcz9_1
        try clear hcz9_2
        try clear hcz9_3
        try clear hcz9_4
        try clear hcz9_5
        try clear hcz9_6
        try clear hcz9_7
        try clear hfz11_0
        try clear hfz11_1
        try clear hfz11_2
        try clear hfz11_3
        try clear hfz11_4
        try clear hfz11_5
        try clear hfz11_6
        try clear hfz11_7
        try clear hfz13_0
        try clear hfz13_1
        try clear hfz13_2
        try clear hfz13_3
        try clear hfz13_4
        try clear hfz13_5
        try clear hfz13_6
        try clear hfz13_7
        try clear hfz7_0
        try clear hfz7_1
        try clear hfz7_2
        try clear hfz7_3
        try clear hfz7_4
        try clear hfz7_5
        try clear hfz7_6
        try clear hfz7_7
        try clear hfz9_0
        try clear hfz9_1
        try clear hfz9_2
        try clear hfz9_3
        try clear hfz9_4
        try clear hfz9_5
        try clear hfz9_6
        try clear hfz9_7
        obtain ⟨x7_1, x54_1, rfl, rfl, HA, HK1, HO_52, BK114, HB⟩ := hrel
        cases gk with
        | zero => exact absurd HA.out (by simp [tcp_Build_p.l0])
        | succ k1 =>
          have H := HA.out
          clear HA
          simp only [tcp_Build_p.l0] at H
          by_cases c17 : x54_1 < (y116.length : Int)
          · rw [if_pos c17] at H
            have c17b0 : decide (x54_1 < (y116.length : Int)) = true := decide_eq_true c17
            clear c17
            by_cases c18 : 0 ≤ x54_1
            · rw [if_pos c18] at H
              have c18b0 : decide (0 ≤ x54_1) = true := decide_eq_true c18
              clear c18
              by_cases c19 : x54_1 < (y116.length : Int)
              · rw [if_pos c19] at H
                have c19b0 : decide (x54_1 < (y116.length : Int)) = true := decide_eq_true c19
                clear c19
                replace H := Option.bind_eq_some_iff.mp H
                obtain ⟨⟨t121, t122⟩, A200, H⟩ := H
                replace H : (if x7_1.size + t121.size ≤ 9223372036854775807 then (tcp_Build_p.l0 k1 a1 (x7_1 ++ t121) y116 (y116.length : Int) (wrap64 (x54_1 + 1)) a0_0 a0_1 a0_2 a0_3 a0_4 a0_5 a0_6 a0_7) else (none)) = some (r1, r2) := H
                have A20 := Aside0.mk A200
                clear A200
                by_cases c21 : x7_1.size + t121.size ≤ 9223372036854775807
                · rw [if_pos c21] at H
                  have c21b0 := eq_true c21
                  have c21b1 : decide (x7_1.size + t121.size ≤ 9223372036854775807) = true := decide_eq_true c21
                  try have c21b2 : (9223372036854775807 < x7_1.size + t121.size) = False := eq_false (Nat.not_lt.2 c21)
                  have H' := Aside0.mk H
                  clear H
                  have p119 : 0 ≤ (x54_1 : Int) := of_decide_eq_true (by first | (with_reducible assumption) | assumption)
                  have q119 : x54_1 < (y116.length : Int) := of_decide_eq_true (by first | (with_reducible assumption) | assumption)
                  obtain ⟨ad119, e119, hx119_0, hx119_1⟩ := at_T50 (Kd.R_reads' HO_52.out).2.2 x54_1 p119 q119
                  cases e119
                  replace p119 := eq_true p119
                  replace q119 := eq_true q119
                  go_wp2_with (first | ((with_reducible refine gate_dst (N := 9) rfl ?_); refine box_event ?hg (N := 9) ?hd (cs := #[.int .i64 0, .int .i64 0]) (t := 50) ?hr ?_; (case hd => rfl); (case hg => rfl); (case hr => first | (go_simp; done) | (go_simp; rfl)); intro gb120 hg w22 hbox hb; have n0_ := Aside0.mk (Kd.R_below (Kd.R_elderB (by (with_reducible repeat (first | apply Kd.R_alloc | apply Kd.R_drewN | apply Kd.R_drew)); exact HO_52.out) gb120 (Nat.le_of_eq hg.symm)) hb); have n1_ := Aside0.mk (blk_below (g := gb114) (o := .cells #[.int .i64 a0_0, .int .i64 a0_1, .int .u32 a0_2, .int .u32 a0_3, .int .i64 a0_4, .int .i64 a0_5, .int .i64 a0_6, .string a0_7] 24 (0, 0)) (by (with_reducible repeat (first | refine blk_drewN ?_ _ | refine blk_drew ?_ | refine blk_alloc ?_ _)); exact BK114.out) hb); have n2_ := Aside0.mk (below_step (by repeat (first | (with_reducible first | exact HB.out | apply below_alloc | apply pw_below_drewN | apply below_drew1 | refine below_set ?_ GE114.out) | exact HB.out)) hb); have n3_ := Aside0.mk (hbox); have n4_ := Aside0.mk ((by rw [hg]; exact (below_size (by repeat (first | (with_reducible first | exact HB.out | apply below_alloc | apply pw_below_drewN | apply below_drew1 | refine below_set ?_ GE114.out) | exact HB.out))) : w.heap.size ≤ gb120)); have n5_ := Aside0.mk ((by rw [hg]; exact (below_size (by repeat (first | (with_reducible first | exact HB.out | apply below_alloc | apply pw_below_drewN | apply below_drew1 | refine below_set ?_ GE114.out) | exact HB.out))) : w.heap.size ≤ gb120)); have n6_ := Aside0.mk ((by rw [hg]; exact Nat.ne_of_lt (blk_lt (g := gb114) (o := .cells #[.int .i64 a0_0, .int .i64 a0_1, .int .u32 a0_2, .int .u32 a0_3, .int .i64 a0_4, .int .i64 a0_5, .int .i64 a0_6, .string a0_7] 24 (0, 0)) (by (with_reducible repeat (first | refine blk_drewN ?_ _ | refine blk_drew ?_ | refine blk_alloc ?_ _)); exact BK114.out)) : gb114 ≠ gb120)); have n7_ := Aside0.mk ((by rw [hg]; exact Nat.ne_of_gt (blk_lt (g := gb114) (o := .cells #[.int .i64 a0_0, .int .i64 a0_1, .int .u32 a0_2, .int .u32 a0_3, .int .i64 a0_4, .int .i64 a0_5, .int .i64 a0_6, .string a0_7] 24 (0, 0)) (by (with_reducible repeat (first | refine blk_drewN ?_ _ | refine blk_drew ?_ | refine blk_alloc ?_ _)); exact BK114.out)) : gb120 ≠ gb114)); clear HO_52; clear BK114; clear HB; have HO_52 := n0_; have BK114 := n1_; have HB := n2_; have BK120 := n3_; have GW120 := n4_; have GE120 := n5_; have NB114_120 := n6_; have NB120_114 := n7_; clear n0_ n1_ n2_ n3_ n4_ n5_ n6_ n7_; clear hb hbox hg; have hnb23 := NB120_114.out; have hnc23 := NB114_120.out; have hcz24_0 : w22.cell? ⟨gb120, 0, none⟩ = some (.int .i64 0) := (blk_cell BK120.out 0).trans rfl; have hcz24_1 : w22.cell? ⟨gb120, 1, none⟩ = some (.int .i64 0) := (blk_cell BK120.out 1).trans rfl; have hfz24_0 := blk_frozen BK120.out 0; have hfz24_1 := blk_frozen BK120.out 1) | ((with_reducible refine gate_callee (f := 22) rfl ?_); refine goesL_ (some 63) rfl rfl Try.func22 (by kernel_rfl) rfl #[.int .i64 ((rd_T50 y116 x54_1).f0), .int .i64 ((rd_T50 y116 x54_1).f1)] rfl (by (try simp only [List.map_toArray, List.map_cons, List.map_nil]); first | done | rfl | (simp only [List.length_drop, List.length_take]; rfl)) ?_; (with_reducible refine (octet_Put.calls ((rd_T50 y116 x54_1).f0) ((rd_T50 y116 x54_1).f1) t121 t122 _ A20.out).mono ?_); rintro e w25 ⟨rfl, hb⟩; (try clear A20); refine ⟨_, rfl, ?_⟩; have n0_ := Aside0.mk (Kd.R_below (by (with_reducible repeat (first | apply Kd.R_alloc | apply Kd.R_drewN | apply Kd.R_drew)); exact (Kd.R_mono (Kd.R_far (p := ⟨gb120, 1, none⟩) (Kd.R_far (p := ⟨gb120, 0, none⟩) (Kd.R_mono HO_52.out (fun k_ hk => (⟨hk, hk.2⟩ : _ ∧ k_ ≠ gb120))) (fun _ hk => hk.2) (.int .i64 ((rd_T50 y116 x54_1).f0))) (fun _ hk => hk.2) (.int .i64 ((rd_T50 y116 x54_1).f1))) (fun _ h_ => h_.1))) hb); have n1_ := Aside0.mk (blk_below (g := gb114) (o := .cells #[.int .i64 a0_0, .int .i64 a0_1, .int .u32 a0_2, .int .u32 a0_3, .int .i64 a0_4, .int .i64 a0_5, .int .i64 a0_6, .string a0_7] 24 (0, 0)) (by (with_reducible repeat (first | refine blk_drewN ?_ _ | refine blk_drew ?_ | refine blk_alloc ?_ _)); refine blk_far ?_ NB114_120.out _; (with_reducible repeat (first | refine blk_drewN ?_ _ | refine blk_drew ?_ | refine blk_alloc ?_ _)); refine blk_far ?_ NB114_120.out _; (with_reducible repeat (first | refine blk_drewN ?_ _ | refine blk_drew ?_ | refine blk_alloc ?_ _)); exact BK114.out) hb); have n2_ := Aside0.mk (blk_below (g := gb120) (o := .cells #[.int .i64 ((rd_T50 y116 x54_1).f0), .int .i64 ((rd_T50 y116 x54_1).f1)] 50 (0, 0)) (by (with_reducible repeat (first | refine blk_drewN ?_ _ | refine blk_drew ?_ | refine blk_alloc ?_ _)); refine blk_put (cs := #[.int .i64 ((rd_T50 y116 x54_1).f0), .int .i64 0]) ?_ 1 _ rfl; (with_reducible repeat (first | refine blk_drewN ?_ _ | refine blk_drew ?_ | refine blk_alloc ?_ _)); refine blk_put (cs := #[.int .i64 0, .int .i64 0]) ?_ 0 _ rfl; (with_reducible repeat (first | refine blk_drewN ?_ _ | refine blk_drew ?_ | refine blk_alloc ?_ _)); exact BK120.out) hb); have n3_ := Aside0.mk (below_step (by repeat (first | (with_reducible first | exact HB.out | apply below_alloc | apply pw_below_drewN | apply below_drew1 | refine below_set ?_ GE114.out | refine below_set ?_ GE120.out) | exact HB.out)) hb); clear HO_52; clear BK114; clear BK120; clear HB; have HO_52 := n0_; have BK114 := n1_; have BK120 := n2_; have HB := n3_; clear n0_ n1_ n2_ n3_; (try clear hb); (try clear hb2); (try clear hk); (try clear hi)))
                  go_roundg k1
                  case measure => have := HK1.out; omega
                  case rel => exact ⟨(x7_1 ++ t121), (wrap64 (x54_1 + 1)), (by first | rfl | (simp; done) | (congr 2; simp only [ByteArray.size_extract, ByteArray.size_append]; (try have := of_eq_true c21b0); (try unfold wrap64); omega) | (simp only [ByteArray.size_extract, ByteArray.size_append, Nat.sub_zero]; done) | (congr 1; simp only [ByteArray.size_extract, ByteArray.size_append, Nat.sub_zero]; (try have := of_eq_true c21b0); omega) | (simp [*]; done)), (by first | rfl | (simp; done) | (congr 2; simp only [ByteArray.size_extract, ByteArray.size_append]; (try have := of_eq_true c21b0); (try unfold wrap64); omega) | (simp only [ByteArray.size_extract, ByteArray.size_append, Nat.sub_zero]; done) | (congr 1; simp only [ByteArray.size_extract, ByteArray.size_append, Nat.sub_zero]; (try have := of_eq_true c21b0); omega) | (simp [*]; done)), H', ⟨by have := HK1.out; omega⟩, ⟨by (with_reducible repeat (first | apply Kd.R_alloc | apply Kd.R_drewN | apply Kd.R_drew)); exact Kd.R_mono HO_52.out (fun _ hk => trivial)⟩, ⟨by (with_reducible repeat (first | refine blk_drewN ?_ _ | refine blk_drew ?_ | refine blk_alloc ?_ _)); exact BK114.out⟩, ⟨by repeat (first | (with_reducible first | exact HB.out | apply below_alloc | apply pw_below_drewN | apply below_drew1 | refine below_set ?_ GE114.out | refine below_set ?_ GE120.out) | exact HB.out)⟩⟩
                · rw [if_neg c21] at H
                  exact absurd H (by simp)
              · rw [if_neg c19] at H
                exact absurd H (by simp)
            · rw [if_neg c18] at H
              exact absurd H (by simp)
          · rw [if_neg c17] at H
            have c17b0 : decide (x54_1 < (y116.length : Int)) = false := decide_eq_false c17
            clear c17
            by_cases c26 : x7_1.size + a0_7.size ≤ 9223372036854775807
            · rw [if_pos c26] at H
              have c26b0 := eq_true c26
              have c26b1 : decide (x7_1.size + a0_7.size ≤ 9223372036854775807) = true := decide_eq_true c26
              try have c26b2 : (9223372036854775807 < x7_1.size + a0_7.size) = False := eq_false (Nat.not_lt.2 c26)
              by_cases c27 : (x7_1 ++ a0_7).size + a1.size ≤ 9223372036854775807
              · rw [if_pos c27] at H
                have c27b0 := eq_true c27
                have c27b1 : decide ((x7_1 ++ a0_7).size + a1.size ≤ 9223372036854775807) = true := decide_eq_true c27
                try have c27b2 : (9223372036854775807 < (x7_1 ++ a0_7).size + a1.size) = False := eq_false (Nat.not_lt.2 c27)
                (try (have c27r := c27; (repeat rw [ByteArray.size_append] at c27r); (repeat rw [ByteArray.size_extract] at c27r); (repeat rw [Nat.sub_zero] at c27r); (repeat rw [Nat.min_self] at c27r); have c27rt := eq_true c27r; have c27ru := eq_false (Nat.not_lt.mpr c27r); clear c27r))
                (try (have c27s := c27; simp [c26b0] at c27s; have c27t := eq_true c27s; have c27u := eq_false (Nat.not_lt.mpr c27s); clear c27s))
                simp only [Option.some.injEq, Prod.mk.injEq] at H
                obtain ⟨rfl, rfl⟩ := H
                have hcz28_0 : wr.cell? ⟨gb114, 0, none⟩ = some (.int .i64 a0_0) := (blk_cell BK114.out 0).trans rfl
                have hcz28_1 : wr.cell? ⟨gb114, 1, none⟩ = some (.int .i64 a0_1) := (blk_cell BK114.out 1).trans rfl
                have hcz28_2 : wr.cell? ⟨gb114, 2, none⟩ = some (.int .u32 a0_2) := (blk_cell BK114.out 2).trans rfl
                have hcz28_3 : wr.cell? ⟨gb114, 3, none⟩ = some (.int .u32 a0_3) := (blk_cell BK114.out 3).trans rfl
                have hcz28_4 : wr.cell? ⟨gb114, 4, none⟩ = some (.int .i64 a0_4) := (blk_cell BK114.out 4).trans rfl
                have hcz28_5 : wr.cell? ⟨gb114, 5, none⟩ = some (.int .i64 a0_5) := (blk_cell BK114.out 5).trans rfl
                have hcz28_6 : wr.cell? ⟨gb114, 6, none⟩ = some (.int .i64 a0_6) := (blk_cell BK114.out 6).trans rfl
                have hcz28_7 : wr.cell? ⟨gb114, 7, none⟩ = some (.string a0_7) := (blk_cell BK114.out 7).trans rfl
                have hfz28_0 := blk_frozen BK114.out 0
                have hfz28_1 := blk_frozen BK114.out 1
                have hfz28_2 := blk_frozen BK114.out 2
                have hfz28_3 := blk_frozen BK114.out 3
                have hfz28_4 := blk_frozen BK114.out 4
                have hfz28_5 := blk_frozen BK114.out 5
                have hfz28_6 := blk_frozen BK114.out 6
                have hfz28_7 := blk_frozen BK114.out 7
                go_wp2
                go_ret2
                exact ⟨by first | rfl | (simp [errW_none, errW_some] <;> rfl) | (simp [*, errW_none, errW_some] <;> rfl), by repeat (first | (with_reducible first | exact HB.out | apply below_alloc | apply pw_below_drewN | apply below_drew1 | refine below_set ?_ GE114.out) | exact HB.out)⟩
              · rw [if_neg c27] at H
                exact absurd H (by simp)
            · rw [if_neg c26] at H
              exact absurd H (by simp)
  · replace c4 := Bool.eq_false_iff.mpr c4
    subst c4
    have H1 : (some ((⟨#[]⟩ : ByteArray), 1)) = some (r1, r2) := by rw [if_neg (show ¬ (false = true) by decide)] at H; exact H
    clear H
    have H := H1
    clear H1
    simp only [Option.some.injEq, Prod.mk.injEq] at H
    obtain ⟨rfl, rfl⟩ := H
    go_enter Try.func11, Try.ntmps11
    go_wp2_with (first | ((with_reducible refine gate_dst (N := 2) rfl ?_); refine box_event ?hg (N := 2) ?hd (cs := #[.int .i64 a0_0, .int .i64 a0_1, .int .u32 a0_2, .int .u32 a0_3, .int .i64 a0_4, .int .i64 a0_5, .int .i64 a0_6, .string a0_7]) (t := 24) ?hr ?_; (case hd => rfl); (case hg => rfl); (case hr => first | (go_simp; done) | (go_simp; rfl)); intro gb114 hg w29 hbox hb; have n0_ := Aside0.mk (below_step (by repeat (first | (with_reducible first | exact HB.out | apply below_alloc | apply pw_below_drewN | apply below_drew1) | exact HB.out)) hb); have n1_ := Aside0.mk (hbox); have n2_ := Aside0.mk ((by rw [hg]; exact (below_size (by repeat (first | (with_reducible first | exact HB.out | apply below_alloc | apply pw_below_drewN | apply below_drew1) | exact HB.out))) : w.heap.size ≤ gb114)); have n3_ := Aside0.mk ((by rw [hg]; exact (below_size (by repeat (first | (with_reducible first | exact HB.out | apply below_alloc | apply pw_below_drewN | apply below_drew1) | exact HB.out))) : w.heap.size ≤ gb114)); clear HB; have HB := n0_; have BK114 := n1_; have GW114 := n2_; have GE114 := n3_; clear n0_ n1_ n2_ n3_; clear hb hbox hg; have hcz30_0 : w29.cell? ⟨gb114, 0, none⟩ = some (.int .i64 a0_0) := (blk_cell BK114.out 0).trans rfl; have hcz30_1 : w29.cell? ⟨gb114, 1, none⟩ = some (.int .i64 a0_1) := (blk_cell BK114.out 1).trans rfl; have hcz30_2 : w29.cell? ⟨gb114, 2, none⟩ = some (.int .u32 a0_2) := (blk_cell BK114.out 2).trans rfl; have hcz30_3 : w29.cell? ⟨gb114, 3, none⟩ = some (.int .u32 a0_3) := (blk_cell BK114.out 3).trans rfl; have hcz30_4 : w29.cell? ⟨gb114, 4, none⟩ = some (.int .i64 a0_4) := (blk_cell BK114.out 4).trans rfl; have hcz30_5 : w29.cell? ⟨gb114, 5, none⟩ = some (.int .i64 a0_5) := (blk_cell BK114.out 5).trans rfl; have hcz30_6 : w29.cell? ⟨gb114, 6, none⟩ = some (.int .i64 a0_6) := (blk_cell BK114.out 6).trans rfl; have hcz30_7 : w29.cell? ⟨gb114, 7, none⟩ = some (.string a0_7) := (blk_cell BK114.out 7).trans rfl; have hfz30_0 := blk_frozen BK114.out 0; have hfz30_1 := blk_frozen BK114.out 1; have hfz30_2 := blk_frozen BK114.out 2; have hfz30_3 := blk_frozen BK114.out 3; have hfz30_4 := blk_frozen BK114.out 4; have hfz30_5 := blk_frozen BK114.out 5; have hfz30_6 := blk_frozen BK114.out 6; have hfz30_7 := blk_frozen BK114.out 7) | ((with_reducible refine gate_callee (f := 14) rfl ?_); refine goesL_ (some 13) rfl rfl Try.func14 (by kernel_rfl) rfl #[.agg #[.int .i64 a0_0, .int .i64 a0_1, .int .u32 a0_2, .int .u32 a0_3, .int .i64 a0_4, .int .i64 a0_5, .int .i64 a0_6, .string a0_7]] rfl (by (try simp only [List.map_toArray, List.map_cons, List.map_nil]); first | done | rfl | (simp only [List.length_drop, List.length_take]; rfl)) ?_; (with_reducible refine (tcp_Right.calls a0_0 a0_1 a0_2 a0_3 a0_4 a0_5 a0_6 a0_7 false _ A3.out).mono ?_); rintro e w31 ⟨rfl, hb⟩; (try clear A3); refine ⟨_, rfl, ?_⟩; have n0_ := Aside0.mk (blk_below (g := gb114) (o := .cells #[.int .i64 a0_0, .int .i64 a0_1, .int .u32 a0_2, .int .u32 a0_3, .int .i64 a0_4, .int .i64 a0_5, .int .i64 a0_6, .string a0_7] 24 (0, 0)) (by (with_reducible repeat (first | refine blk_drewN ?_ _ | refine blk_drew ?_ | refine blk_alloc ?_ _)); exact BK114.out) hb); have n1_ := Aside0.mk (below_step (by repeat (first | (with_reducible first | exact HB.out | apply below_alloc | apply pw_below_drewN | apply below_drew1 | refine below_set ?_ GE114.out) | exact HB.out)) hb); clear BK114; clear HB; have BK114 := n0_; have HB := n1_; clear n0_ n1_; (try clear hb); (try clear hb2); (try clear hk); (try clear hi)))
    go_ret2
    exact ⟨by first | rfl | (simp [errW_none, errW_some] <;> rfl) | (simp [*, errW_none, errW_some] <;> rfl), by repeat (first | (with_reducible first | exact HB.out | apply below_alloc | apply pw_below_drewN | apply below_drew1 | refine below_set ?_ GE114.out) | exact HB.out)⟩

theorem tcp_build_step (k : Nat) (b : ByteArray) (acc : List UInt8) (y : List S50) (m i sz n : Int) (h0 h1 h2 h3 h4 h5 h6 : Int) (h7 : ByteArray) (hi : 0 ≤ i) (hm : i < m) (hy : i < y.length) (hr : rd_T50 y i = ⟨sz, n⟩) (hf : Sp.fits sz n = true) (ha : acc.length ≤ 1000) (hi1 : i < 1000) :
    tcp_Build_p.l0 (k + 1) b (lb acc) y m i h0 h1 h2 h3 h4 h5 h6 h7 = tcp_Build_p.l0 k b (lb (acc ++ Sp.beBytes sz.toNat n)) y m (i + 1) h0 h1 h2 h3 h4 h5 h6 h7 := by
  have hp := Sp.put_yes hf
  have hff := Sp.fits_iff.1 hf
  rw [tcp_Build_p.l0, if_pos hm, if_pos hi, if_pos hy, hr]
  show (octet_Put.f sz n).bind _ = _
  unfold octet_Put.f
  rw [Option.bind_some, hp]
  show (if (lb acc).size + (lb (Sp.beBytes sz.toNat n)).size ≤ 9223372036854775807 then _ else _) = _
  rw [if_pos (by rw [lb_size, lb_size, Sp.beBytes_length]; omega), wrap_id (n := i + 1) (by omega) (by omega)]
  show tcp_Build_p.l0 k b (lb acc ++ lb (Sp.beBytes sz.toNat n)) y m (i + 1) h0 h1 h2 h3 h4 h5 h6 h7 = _
  rw [Sp.lb_append]
def tcp_Build.f (a0_0 a0_1 a0_2 a0_3 a0_4 a0_5 a0_6 : Int) (a0_7 : ByteArray) (a1 : ByteArray) : Option (ByteArray × Int) := if (0 ≤ a0_2 ∧ a0_2 ≤ 4294967295) ∧ (0 ≤ a0_3 ∧ a0_3 ≤ 4294967295) ∧ a0_7.size ≤ 140737488355328 ∧ a1.size ≤ 140737488355328 then some (lb (Sp.tcpBuild a0_0 a0_1 a0_2 a0_3 a0_4 a0_5 a0_6 (bl a0_7) (bl a1)).1, (Sp.tcpBuild a0_0 a0_1 a0_2 a0_3 a0_4 a0_5 a0_6 (bl a0_7) (bl a1)).2) else none
theorem tcp_Build_eq {a0_0 a0_1 a0_2 a0_3 a0_4 a0_5 a0_6 : Int} {a0_7 a1 : ByteArray} (h0 : 0 ≤ a0_2 ∧ a0_2 ≤ 4294967295) (h1 : 0 ≤ a0_3 ∧ a0_3 ≤ 4294967295) (h2 : a0_7.size ≤ 140737488355328) (h3 : a1.size ≤ 140737488355328) : tcp_Build.f a0_0 a0_1 a0_2 a0_3 a0_4 a0_5 a0_6 a0_7 a1 = some (lb (Sp.tcpBuild a0_0 a0_1 a0_2 a0_3 a0_4 a0_5 a0_6 (bl a0_7) (bl a1)).1, (Sp.tcpBuild a0_0 a0_1 a0_2 a0_3 a0_4 a0_5 a0_6 (bl a0_7) (bl a1)).2) := by unfold tcp_Build.f; exact if_pos ⟨h0, h1, h2, h3⟩
theorem tcp_off {o fl : Int} (h0 : 0 ≤ o) (h1 : o ≤ 40) (f0 : 0 ≤ fl) (f1 : fl ≤ 4095) : Go.bits .or .i64 (wrap64 (wrap64 (Int.tdiv (wrap64 (20 + o)) 4) * 4096)) fl = 4096 * ((20 + o) / 4) + fl := by
  rw [wrap_id (n := 20 + o) (by omega) (by omega), Int.tdiv_eq_ediv_of_nonneg (by omega), wrap_id (n := (20 + o) / 4) (by omega) (by omega), wrap_id (n := (20 + o) / 4 * 4096) (by omega) (by omega)]
  rw [bits_join .i64 62 (by decide) (fun n a b => by rw [IntKind.wrap_i64]; omega) 12 ((20 + o) / 4 * 4096) fl (by omega) (by omega) (by omega) f0 (by omega) (by omega)]
  omega
theorem fits4 {n : Int} (h : 0 ≤ n ∧ n ≤ 4294967295) : Sp.fits 4 n = true := Sp.fits_iff.2 ⟨by decide, by decide, h.1, by show n < 256 ^ 4; omega⟩
theorem tcp_Build_ev (a0_0 a0_1 a0_2 a0_3 a0_4 a0_5 a0_6 : Int) (a0_7 a1 : ByteArray) (r : ByteArray × Int) (h : tcp_Build.f a0_0 a0_1 a0_2 a0_3 a0_4 a0_5 a0_6 a0_7 a1 = some r) : ∃ k, tcp_Build_p.f k a0_0 a0_1 a0_2 a0_3 a0_4 a0_5 a0_6 a0_7 a1 = some r := by
  unfold tcp_Build.f at h
  split at h
  case isFalse => cases h
  case isTrue hs =>
    obtain ⟨s2, s3, s7, s1⟩ := hs
    refine ⟨9, ?_⟩
    rw [← h]
    unfold tcp_Build_p.f Sp.tcpBuild
    rw [tcp_Right_eq s7, Option.bind_some]
    have hl := bl_length a0_7
    have hb := bl_length a1
    by_cases hr : Sp.tcpRight a0_0 a0_1 a0_4 a0_5 a0_6 (bl a0_7) = true
    · obtain ⟨f0, f1, f5, f6, hfl, hol, _⟩ := Sp.tcpRight_iff.1 hr
      rw [if_pos hr, if_pos hr, wrap_id (n := 20 + (a0_7.size : Int)) (by omega) (by omega), wrap_id (n := 20 + (a0_7.size : Int) + (a1.size : Int)) (by omega) (by omega)]
      by_cases hz : 20 + (a0_7.size : Int) + (a1.size : Int) > 1500
      · rw [if_pos hz, if_pos (by omega)]; rfl
      · have ho := tcp_off (o := (a0_7.size : Int)) (fl := a0_4) (by omega) (by omega) hfl.1 hfl.2
        rw [wrap_id (n := 20 + (a0_7.size : Int)) (by omega) (by omega)] at ho
        have ff : Sp.fits 2 (4096 * ((20 + (a0_7.size : Int)) / 4) + a0_4) = true := Sp.fits2.2 ⟨by omega, by omega⟩
        rw [if_neg hz, if_neg (by omega), Option.bind_some, ho, wrap_id (n := a0_2) (by omega) (by omega), wrap_id (n := a0_3) (by omega) (by omega)]
        rw [show (⟨#[]⟩ : ByteArray) = lb [] from rfl]
        show tcp_Build_p.l0 9 a1 (lb []) _ 8 0 a0_0 a0_1 a0_2 a0_3 a0_4 a0_5 a0_6 a0_7 = _
        rw [tcp_build_step _ _ _ _ _ _ 2 a0_0 _ _ _ _ _ _ _ _ (by decide) (by decide) (by simp) rfl f0 (by simp) (by decide)]
        rw [tcp_build_step _ _ _ _ _ _ 2 a0_1 _ _ _ _ _ _ _ _ (by decide) (by decide) (by simp) rfl f1 (by simp [Sp.beBytes_length]) (by decide)]
        rw [tcp_build_step _ _ _ _ _ _ 4 a0_2 _ _ _ _ _ _ _ _ (by decide) (by decide) (by simp) rfl (fits4 s2) (by simp [Sp.beBytes_length]) (by decide)]
        rw [tcp_build_step _ _ _ _ _ _ 4 a0_3 _ _ _ _ _ _ _ _ (by decide) (by decide) (by simp) rfl (fits4 s3) (by simp [Sp.beBytes_length]) (by decide)]
        rw [tcp_build_step _ _ _ _ _ _ 2 (4096 * ((20 + (a0_7.size : Int)) / 4) + a0_4) _ _ _ _ _ _ _ _ (by decide) (by decide) (by simp) rfl ff (by simp [Sp.beBytes_length]) (by decide)]
        rw [tcp_build_step _ _ _ _ _ _ 2 a0_5 _ _ _ _ _ _ _ _ (by decide) (by decide) (by simp) rfl f5 (by simp [Sp.beBytes_length]) (by decide)]
        rw [tcp_build_step _ _ _ _ _ _ 2 0 _ _ _ _ _ _ _ _ (by decide) (by decide) (by simp) rfl (by decide) (by simp [Sp.beBytes_length]) (by decide)]
        rw [tcp_build_step _ _ _ _ _ _ 2 a0_6 _ _ _ _ _ _ _ _ (by decide) (by decide) (by simp) rfl f6 (by simp [Sp.beBytes_length]) (by decide)]
        rw [tcp_Build_p.l0, if_neg (by decide)]
        have hh : [] ++ Sp.beBytes (2 : Int).toNat a0_0 ++ Sp.beBytes (2 : Int).toNat a0_1 ++ Sp.beBytes (4 : Int).toNat a0_2 ++ Sp.beBytes (4 : Int).toNat a0_3 ++ Sp.beBytes (2 : Int).toNat (4096 * ((20 + (a0_7.size : Int)) / 4) + a0_4) ++ Sp.beBytes (2 : Int).toNat a0_5 ++ Sp.beBytes (2 : Int).toNat 0 ++ Sp.beBytes (2 : Int).toNat a0_6 = Sp.tcpHead a0_0 a0_1 a0_2 a0_3 a0_4 a0_5 a0_6 (bl a0_7) := by
          unfold Sp.tcpHead; rw [hl]; rfl
        rw [hh, if_pos (by rw [lb_size, Sp.tcpHead_length]; omega)]
        rw [if_pos (by rw [ByteArray.size_append, lb_size, Sp.tcpHead_length]; omega)]
        rw [show lb (Sp.tcpHead a0_0 a0_1 a0_2 a0_3 a0_4 a0_5 a0_6 (bl a0_7)) ++ a0_7 ++ a1 = lb (Sp.tcpHead a0_0 a0_1 a0_2 a0_3 a0_4 a0_5 a0_6 (bl a0_7) ++ bl a0_7 ++ bl a1) from Sp.bl_inj (by simp only [Sp.bl_append, Sp.bl_lb])]
    · rw [if_neg hr, if_neg hr]; rfl

theorem tcp_Build.calls (a0_0 : Int) (a0_1 : Int) (a0_2 : Int) (a0_3 : Int) (a0_4 : Int) (a0_5 : Int) (a0_6 : Int) (a0_7 : ByteArray) (a1 : ByteArray) (r1 : ByteArray) (r2 : Int) (w : World) (h : tcp_Build.f a0_0 a0_1 a0_2 a0_3 a0_4 a0_5 a0_6 a0_7 a1 = some (r1, r2)) :
    Calls Try.prog 11 #[.agg #[.int .i64 a0_0, .int .i64 a0_1, .int .u32 a0_2, .int .u32 a0_3, .int .i64 a0_4, .int .i64 a0_5, .int .i64 a0_6, .string a0_7], .string a1] w fun e w' => e = .returned (.tuple #[.string r1, .int .i64 r2]) ∧ Below w.heap.size w w' := by
  obtain ⟨k, hk⟩ := tcp_Build_ev a0_0 a0_1 a0_2 a0_3 a0_4 a0_5 a0_6 a0_7 a1 _ h
  exact tcp_Build_p.calls k a0_0 a0_1 a0_2 a0_3 a0_4 a0_5 a0_6 a0_7 a1 r1 r2 w hk

/-! ### tcp_Name: function 18 -/
theorem and_one (x : Int) : Go.bits .and .i64 x 1 = x % 2 := by
  unfold Go.bits
  have h1 : (BitVec.ofInt 64 x &&& BitVec.ofInt 64 1).toNat = (BitVec.ofInt 64 x).toNat % 2 := by
    rw [BitVec.toNat_and]
    exact Nat.and_one_is_mod _
  have h2 : ((BitVec.ofInt 64 x).toNat : Int) = x % 18446744073709551616 := by
    rw [BitVec.toNat_ofInt]; omega
  show IntKind.i64.wrap ((BitVec.ofInt 64 x &&& BitVec.ofInt 64 1).toNat : Int) = _
  rw [h1, IntKind.wrap_i64]
  omega
def letters6 : ByteArray := ⟨#[70, 83, 82, 80, 65, 85]⟩
/-- the letters of the first i flags that are set -/
def nm (x : Int) : Nat → List UInt8
  | 0 => []
  | i + 1 => nm x i ++ (if x / 2 ^ i % 2 = 0 then [] else [letters6.data.getD i 0])
theorem nm_length (x : Int) : ∀ i, (nm x i).length ≤ i
  | 0 => Nat.le_refl _
  | i + 1 => by
    have := nm_length x i
    unfold nm; rw [List.length_append]; split <;> simp <;> omega
theorem rune_text : ∀ i : Fin 6, Utf8.encode (((letters6[i.val]'i.isLt).toNat : Nat) : Int) = lb [letters6.data.getD i.val 0] := by decide +kernel
def NameRel (x : Int) (w : World) (n : Value) (w' : World) : Prop := ∃ i : Nat, i ≤ 6 ∧ w' = w.iter letters6 i ∧ n = .string (lb (nm x i))
def nameLeft (w w' : World) : Nat := 6 - w'.iterPos w.heap.size
set_option maxRecDepth 100000 in
theorem name_any (x : Int) (w : World) : Calls Try.prog 18 #[.int .i64 x] w fun e w' => e = .returned (.string (lb (nm x 6))) ∧ Below w.heap.size w w' := by
  go_enter Try.func18, Try.ntmps18
  go_wp2
  go_loopw [3] (fun n w' => NameRel x w n w') (fun _ w' => nameLeft w w')
  case atStart => exact ⟨0, by omega, rfl, rfl⟩
  case round =>
    obtain ⟨i, hi, rfl, rfl⟩ := hrel
    by_cases hp : i < letters6.size
    · have hp6 : i < 6 := hp
      have ha : (letters6[i]'hp).toNat < 128 := by
        have : ∀ j : Fin 6, (letters6[j.val]'j.isLt).toNat < 128 := by decide
        exact this ⟨i, hp6⟩
      have hnx0 : ∀ ty, (Instr.next (.pointer (some ⟨w.heap.size, 0, none⟩)) true ty).run Try.prog (w.iter letters6 i) = _ := fun ty => run_next_ascii w letters6 i ty hp ha
      obtain ⟨T, hT⟩ : ∃ T : ByteArray, lb [letters6.data.getD i 0] = T := ⟨_, rfl⟩
      have htx : Utf8.encode (((letters6[i]'hp).toNat : Nat) : Int) = T := (rune_text ⟨i, hp6⟩).trans hT
      have hTs : T.size = 1 := by rw [← hT, lb_size]; rfl
      have HT := Lib.hid hT
      generalize (letters6[i]'hp).toNat = c at hnx0 htx ha
      have hnx : ∀ ty, (Instr.next (.pointer (some ⟨w.heap.size, 0, none⟩)) true ty).run Try.prog (w.iter letters6 i) = .ok (.tuple #[.bool true, .int .i64 (i : Int), .int .i32 (c : Int)]) (w.iter letters6 (i + 1)) := fun ty => hnx0 ty
      have HI := Lib.hid hp6
      have hmn : min i 64 = i := by omega
      obtain ⟨j, hj⟩ : ∃ j : Int, x / 2 ^ i = j := ⟨_, rfl⟩
      obtain ⟨b, hb⟩ : ∃ b : Int, Go.bits .and .i64 j 1 = b := ⟨_, rfl⟩
      obtain ⟨o, ho⟩ : ∃ o : ByteArray, lb (nm x i) = o := ⟨_, rfl⟩
      have hos : o.size ≤ 6 := by rw [← ho, lb_size]; have := nm_length x i; omega
      have y1 := eq_false (show ¬ 9223372036854775807 < o.size + T.size by omega)
      have hbd : b = x / 2 ^ i % 2 := by rw [← hb, and_one, hj]
      have HB := Lib.hid hbd
      have HO := Lib.hid ho
      rw [ho]
      clear hnx0 ha hp6 hp hT hTs hos hbd ho
      generalize hL : letters6 = L at hnx HT ⊢
      have HLL := Lib.hid hL
      clear hL
      go_upto_if 8 with (fail)
      go_upto_if 15 with (fail)
      obtain ⟨tt, htt⟩ : ∃ tt : Bool, (b != 0) = tt := ⟨_, rfl⟩
      rw [htt]
      have HTT := Lib.hid htt
      clear htt hb hj hmn hi
      cases tt
      · go_wp2_with (fail)
        go_roundw
        case rel =>
          have hL := HLL.out
          rw [← hL]
          refine ⟨i + 1, HI.out, rfl, ?_⟩
          have h0 : x / 2 ^ i % 2 = 0 := by rw [← HB.out]; simpa using HTT.out
          rw [nm, if_pos h0, List.append_nil, HO.out]
        case measure => 
          have := HI.out
          simp [nameLeft]; omega
      · go_wp2_with (fail)
        go_roundw
        case rel =>
          have hL := HLL.out
          rw [← hL]
          refine ⟨i + 1, HI.out, rfl, ?_⟩
          have h0 : ¬ x / 2 ^ i % 2 = 0 := by rw [← HB.out]; simpa using HTT.out
          have h1 := HT.out
          rw [nm, if_neg h0, ← lb_append, HO.out, hL, h1]
        case measure =>
          have := HI.out
          simp [nameLeft]; omega
    · have hi6 : i = 6 := by have : ¬ i < 6 := hp; omega
      subst hi6
      have hnx : ∀ ty, (Instr.next (.pointer (some ⟨w.heap.size, 0, none⟩)) true ty).run Try.prog (w.iter letters6 6) = _ := fun ty => run_next_end w letters6 6 ty hp
      go_wp2
      go_ret
      exact ⟨rfl, below_alloc (Below.refl _ _) _⟩
def tcp_Name.f (a0 : Int) : Option ByteArray := some (lb (nm a0 6))
theorem tcp_Name.calls (a0 : Int) (r : ByteArray) (w : World) (h : tcp_Name.f a0 = some r) :
    Calls Try.prog 18 #[.int .i64 a0] w fun e w' => e = .returned (.string r) ∧ Below w.heap.size w w' := by
  have h := Option.some.inj h
  subst h
  exact name_any a0 w
/-! ### tcp_Parse: function 20 -/
set_option maxRecDepth 100000 in
set_option maxHeartbeats 4000000 in
theorem tcp_parse_short (s : ByteArray) (w : World) (h : s.size < 20) : Calls Try.prog 20 #[.string s] w fun e w' => e = .returned (.tuple #[.agg #[.int .i64 0, .int .i64 0, .int .u32 0, .int .u32 0, .int .i64 0, .int .i64 0, .int .i64 0, .string ⟨#[]⟩], .string ⟨#[]⟩, .int .i64 2]) ∧ Below w.heap.size w w' := by
  have c2b1 : decide (s.size < 20) = true := decide_eq_true (by omega)
  go_enter Try.func20, Try.ntmps20
  go_wp2_with (fail)
  refine bodyPost_ret (results_ctt rfl _ _ w.heap.size 24 #[.int .i64 0, .int .i64 0, .int .u32 0, .int .u32 0, .int .i64 0, .int .i64 0, .int .i64 0, .string ⟨#[]⟩] (0, 0) _ rfl ?_ Try.underlying24 rfl (by kernel_rfl)) rfl ?_
  · exact World.alloc_heap_new w _
  · exact ⟨rfl, below_alloc (Below.refl _ _) _⟩
def zeroH : Array Value := #[.int .i64 0, .int .i64 0, .int .u32 0, .int .u32 0, .int .i64 0, .int .i64 0, .int .i64 0, .string ⟨#[]⟩]
set_option maxRecDepth 100000 in
set_option maxHeartbeats 4000000 in
theorem tcp_parse_header (s : ByteArray) (w : World) (h : ¬ s.size < 20) (sz : Int) (hsz : wrap64 (wrap64 (bt s 12 / 16) * 4) = sz) (hh : sz < 20 ∨ sz > s.size) : Calls Try.prog 20 #[.string s] w fun e w' => e = .returned (.tuple #[.agg #[.int .i64 0, .int .i64 0, .int .u32 0, .int .u32 0, .int .i64 0, .int .i64 0, .int .i64 0, .string ⟨#[]⟩], .string ⟨#[]⟩, .int .i64 4]) ∧ Below w.heap.size w w' := by
  have c2b1 : decide (s.size < 20) = false := decide_eq_false (by omega)
  have c2b0 : decide ((s.size : Int) < 20) = false := decide_eq_false (by omega)
  have c5b1 : decide (12 < s.size) = true := decide_eq_true (by omega)
  have c5b0 : decide (12 < (s.size : Int)) = true := decide_eq_true (by omega)
  have hbt : ∀ h : 12 < s.size, ((s[12]'h).toNat : Int) = bt s 12 := fun h => bt_at s 12 h
  by_cases h1 : sz < 20
  · have d1 : decide (sz < 20) = true := decide_eq_true h1
    go_enter Try.func20, Try.ntmps20
    go_wp2_with (fail)
    refine bodyPost_ret (results_ctt rfl _ _ w.heap.size 24 #[.int .i64 0, .int .i64 0, .int .u32 0, .int .u32 0, .int .i64 0, .int .i64 0, .int .i64 0, .string ⟨#[]⟩] (0, 0) _ rfl ?_ Try.underlying24 rfl (by kernel_rfl)) rfl ?_
    · exact World.alloc_heap_new w _
    · exact ⟨rfl, below_alloc (Below.refl _ _) _⟩
  · have d1 : decide (sz < 20) = false := decide_eq_false h1
    have d2 : decide (sz > (s.size : Int)) = true := decide_eq_true (by omega)
    have d3 : decide ((s.size : Int) < sz) = true := decide_eq_true (by omega)
    go_enter Try.func20, Try.ntmps20
    go_wp2_with (fail)
    refine bodyPost_ret (results_ctt rfl _ _ w.heap.size 24 #[.int .i64 0, .int .i64 0, .int .u32 0, .int .u32 0, .int .i64 0, .int .i64 0, .int .i64 0, .string ⟨#[]⟩] (0, 0) _ rfl ?_ Try.underlying24 rfl (by kernel_rfl)) rfl ?_
    · exact World.alloc_heap_new w _
    · exact ⟨rfl, below_alloc (Below.refl _ _) _⟩
theorem opts_any (s : ByteArray) (hs : s.size ≤ 140737488355328) (w : World) : Calls Try.prog 16 #[.string s] w fun e w' => e = .returned (.bool (Sp.optsOk (bl s))) ∧ Below w.heap.size w w' :=
  tcp_OptsRight.calls s _ w (tcp_OptsRight_eq hs)
theorem get_any (s : ByteArray) (hs : s.size ≤ 281474976710656) (a b : Int) (w : World) : Calls Try.prog 26 #[.string s, .int .i64 a, .int .i64 b] w fun e w' => e = .returned (.tuple #[.int .i64 (Sp.get (bl s) a b).1, .bool (Sp.get (bl s) a b).2]) ∧ Below w.heap.size w w' :=
  octet_Get.calls s a b _ _ w (octet_Get_eq s a b hs)
theorem heap_step' {W W' : World} {x : Obj} {B : Nat} (h : W.heap[B]? = some x) (hb : Below W.heap.size W W') : W'.heap[B]? = some x := by
  rw [hb.block _ (Array.getElem?_eq_some_iff.1 h).1]; exact h
theorem row_free {W : World} {B i : Nat} {cs : Array Value} {t : TypeId} (h : W.heap[B]? = some (.cells cs t (0, 0))) : W.frozen? ⟨B, i, none⟩ = false := by
  simp [World.frozen?, h]
theorem heap_alloc' {W : World} {x : Obj} {B : Nat} (o : Obj) (h : W.heap[B]? = some x) : (W.alloc o).heap[B]? = some x := by
  have hl := (Array.getElem?_eq_some_iff.1 h).1
  simp only [World.alloc, Array.getElem?_push]
  rw [if_neg (by omega)]; exact h
set_option maxRecDepth 100000 in
set_option maxHeartbeats 4000000 in
theorem tcp_parse_opts (s : ByteArray) (w : World) (hs : s.size ≤ 140737488355328) (h : ¬ s.size < 20) (sz : Int) (hsz : wrap64 (wrap64 (bt s 12 / 16) * 4) = sz) (h1 : 20 ≤ sz) (h2 : sz ≤ s.size) (ho : Sp.optsOk (bl (s.extract 20 sz.toNat)) = false) : Calls Try.prog 20 #[.string s] w fun e w' => e = .returned (.tuple #[.agg #[.int .i64 0, .int .i64 0, .int .u32 0, .int .u32 0, .int .i64 0, .int .i64 0, .int .i64 0, .string ⟨#[]⟩], .string ⟨#[]⟩, .int .i64 6]) ∧ Below w.heap.size w w' := by
  have c2b1 : decide (s.size < 20) = false := decide_eq_false (by omega)
  have c2b0 : decide ((s.size : Int) < 20) = false := decide_eq_false (by omega)
  have c5b1 : decide (12 < s.size) = true := decide_eq_true (by omega)
  have c5b0 : decide (12 < (s.size : Int)) = true := decide_eq_true (by omega)
  have hbt : ∀ h : 12 < s.size, ((s[12]'h).toNat : Int) = bt s 12 := fun h => bt_at s 12 h
  have d1 : decide (sz < 20) = false := decide_eq_false (by omega)
  have d2 : decide (sz > (s.size : Int)) = false := decide_eq_false (by omega)
  have d3 : decide ((s.size : Int) < sz) = false := decide_eq_false (by omega)
  have H := fun W => opts_any (s.extract 20 sz.toNat) (by rw [ByteArray.size_extract]; omega) W
  rw [ho] at H
  have HO := Lib.hid ho
  clear ho
  go_enter Try.func20, Try.ntmps20
  go_wp2_with (fail)
  refine (H _).mono ?_
  rintro e w1 ⟨rfl, hb⟩
  have hr := heap_step' (World.alloc_heap_new w _) hb
  have hB := below_step (below_alloc (Below.refl _ _) _) hb
  clear hb H
  have x0 := fun (i : Nat) (v : Value) (h : zeroH[i]? = some v) => (cell_of_row w1 w.heap.size i zeroH 24 (0, 0) hr).trans h
  have z0 := fun (i : Nat) => row_free (i := i) hr
  have y0 := x0 0 (.int .i64 0) rfl
  have y1 := x0 1 (.int .i64 0) rfl
  have y2 := x0 2 (.int .u32 0) rfl
  have y3 := x0 3 (.int .u32 0) rfl
  have y4 := x0 4 (.int .i64 0) rfl
  have y5 := x0 5 (.int .i64 0) rfl
  have y6 := x0 6 (.int .i64 0) rfl
  have y7 := x0 7 (.string ⟨#[]⟩) rfl
  have v0 := z0 0
  have v1 := z0 1
  have v2 := z0 2
  have v3 := z0 3
  have v4 := z0 4
  have v5 := z0 5
  have v6 := z0 6
  have v7 := z0 7
  have HR := Lib.hid hr
  have HBB := Lib.hid hB
  clear x0 z0 hr hB
  go_wp2_with (fail)
  refine bodyPost_ret (results_ctt rfl _ _ w.heap.size 24 zeroH (0, 0) _ rfl ?_ Try.underlying24 rfl (by kernel_rfl)) rfl ?_
  · refine blk_put (cs := zeroH) ?_ 7 _ rfl
    refine blk_put (cs := zeroH) ?_ 6 _ rfl
    refine blk_put (cs := zeroH) ?_ 5 _ rfl
    refine blk_put (cs := zeroH) ?_ 4 _ rfl
    refine blk_put (cs := zeroH) ?_ 3 _ rfl
    refine blk_put (cs := zeroH) ?_ 2 _ rfl
    refine blk_put (cs := zeroH) ?_ 1 _ rfl
    refine blk_put (cs := zeroH) ?_ 0 _ rfl
    exact HR.out
  · refine ⟨rfl, ?_⟩
    repeat (refine below_set ?_ (Nat.le_refl _))
    exact HBB.out
theorem below_stepB {w W W' : World} {B : Nat} (e : w.heap.size = B) (h : Below B w W) (hb : Below W.heap.size W W') : Below B w W' := by subst e; exact below_step h hb
theorem heap_drew {W : World} {x : Obj} {B : Nat} (h : W.heap[B]? = some x) : W.drew.heap[B]? = some x := h
set_option maxRecDepth 100000 in
set_option maxHeartbeats 4000000 in
theorem tcp_parse_long (s : ByteArray) (w : World) (hs : s.size ≤ 140737488355328) (h : ¬ s.size < 20) (sz : Int) (hsz : wrap64 (wrap64 (bt s 12 / 16) * 4) = sz) (h1 : 20 ≤ sz) (h2 : sz ≤ s.size) (ho : Sp.optsOk (bl (s.extract 20 sz.toNat)) = true) : Calls Try.prog 20 #[.string s] w fun e w' => e = .returned (.tuple #[.agg #[.int .i64 (Sp.get (bl s) 0 2).1, .int .i64 (Sp.get (bl s) 2 2).1, .int .u32 (IntKind.u32.wrap (Sp.get (bl s) 4 4).1), .int .u32 (IntKind.u32.wrap (Sp.get (bl s) 8 4).1), .int .i64 (Go.bits .and .i64 (Sp.get (bl s) 12 2).1 4095), .int .i64 (Sp.get (bl s) 14 2).1, .int .i64 (Sp.get (bl s) 18 2).1, .string (s.extract 20 sz.toNat)], .string (s.extract sz.toNat s.size), .int .i64 0]) ∧ Below w.heap.size w w' := by
  have c2b1 : decide (s.size < 20) = false := decide_eq_false (by omega)
  have c2b0 : decide ((s.size : Int) < 20) = false := decide_eq_false (by omega)
  have c5b1 : decide (12 < s.size) = true := decide_eq_true (by omega)
  have c5b0 : decide (12 < (s.size : Int)) = true := decide_eq_true (by omega)
  have hbt : ∀ h : 12 < s.size, ((s[12]'h).toNat : Int) = bt s 12 := fun h => bt_at s 12 h
  have d1 : decide (sz < 20) = false := decide_eq_false (by omega)
  have d2 : decide (sz > (s.size : Int)) = false := decide_eq_false (by omega)
  have d3 : decide ((s.size : Int) < sz) = false := decide_eq_false (by omega)
  have H := fun W => opts_any (s.extract 20 sz.toNat) (by rw [ByteArray.size_extract]; omega) W
  rw [ho] at H
  have G := fun a b W => get_any s (by omega) a b W
  have HO := Lib.hid ho
  clear ho
  go_enter Try.func20, Try.ntmps20
  go_wp2_with (fail)
  refine (H _).mono ?_
  rintro e w1 ⟨rfl, hb⟩
  have hr : w1.heap[w.heap.size]? = some (.cells zeroH 24 (0, 0)) := heap_step' (World.alloc_heap_new w _) hb
  have hB := below_step (below_alloc (Below.refl _ _) _) hb
  clear hb H
  obtain ⟨B, hBe⟩ : ∃ B, w.heap.size = B := ⟨_, rfl⟩
  rw [hBe] at hr hB ⊢
  have HR := Lib.hid hr
  have HBB := Lib.hid hB
  clear hr hB
  go_wp2_with (fail)
  obtain ⟨N, hNe⟩ : ∃ N, w1.heap.size = N := ⟨_, rfl⟩
  have hlt : B < N := by rw [← hNe]; exact (Array.getElem?_eq_some_iff.1 HR.out).1
  have hR0 := heap_alloc' (.cells #[.int .i64 0] 3) HR.out
  have hS0 := World.alloc_heap_new w1 (.cells #[.int .i64 0] 3)
  have hB0 : Below B w (w1.alloc (.cells #[.int .i64 0] 3)) := by have h_ := HBB.out; rw [← hBe] at h_ ⊢; exact below_alloc h_ _
  rw [hNe] at hS0 ⊢
  have z1 : (w1.alloc (.cells #[.int .i64 0] 3)).heap.size = N + 1 := by rw [← hNe]; simp
  obtain ⟨a1, ha1⟩ : ∃ a, w1.alloc (.cells #[.int .i64 0] 3) = a := ⟨_, rfl⟩
  rw [ha1] at hR0 hS0 hB0 z1 ⊢
  clear ha1
  clear HR HBB hNe
  have hR1 := heap_alloc' (.cells #[.int .i64 0] 3) hR0
  have hS1 := heap_alloc' (.cells #[.int .i64 0] 3) hS0
  have hA1 := World.alloc_heap_new a1 (.cells #[.int .i64 0] 3)
  have hB1 : Below B w (a1.alloc (.cells #[.int .i64 0] 3)) := by rw [← hBe] at hB0 ⊢; exact below_alloc hB0 _
  rw [z1] at hA1
  have z2 : (a1.alloc (.cells #[.int .i64 0] 3)).heap.size = N + 2 := by simp [z1]
  obtain ⟨a2, ha2⟩ : ∃ a, a1.alloc (.cells #[.int .i64 0] 3) = a := ⟨_, rfl⟩
  rw [ha2] at hR1 hS1 hA1 hB1 z2 ⊢
  clear ha2
  clear hR0 hS0 hB0 z1
  have hR0 := heap_alloc' (.cells #[.pointer (some ⟨B, 0, none⟩), .int .i64 2, .pointer (some ⟨B, 1, none⟩), .int .i64 2, .pointer (some ⟨N, 0, none⟩), .int .i64 4, .pointer (some ⟨N + 1, 0, none⟩), .int .i64 4, .pointer (some ⟨B, 4, none⟩), .int .i64 2, .pointer (some ⟨B, 5, none⟩), .int .i64 2] 60) hR1
  have hS0 := heap_alloc' (.cells #[.pointer (some ⟨B, 0, none⟩), .int .i64 2, .pointer (some ⟨B, 1, none⟩), .int .i64 2, .pointer (some ⟨N, 0, none⟩), .int .i64 4, .pointer (some ⟨N + 1, 0, none⟩), .int .i64 4, .pointer (some ⟨B, 4, none⟩), .int .i64 2, .pointer (some ⟨B, 5, none⟩), .int .i64 2] 60) hS1
  have hA0 := heap_alloc' (.cells #[.pointer (some ⟨B, 0, none⟩), .int .i64 2, .pointer (some ⟨B, 1, none⟩), .int .i64 2, .pointer (some ⟨N, 0, none⟩), .int .i64 4, .pointer (some ⟨N + 1, 0, none⟩), .int .i64 4, .pointer (some ⟨B, 4, none⟩), .int .i64 2, .pointer (some ⟨B, 5, none⟩), .int .i64 2] 60) hA1
  have hL0 := World.alloc_heap_new a2 (.cells #[.pointer (some ⟨B, 0, none⟩), .int .i64 2, .pointer (some ⟨B, 1, none⟩), .int .i64 2, .pointer (some ⟨N, 0, none⟩), .int .i64 4, .pointer (some ⟨N + 1, 0, none⟩), .int .i64 4, .pointer (some ⟨B, 4, none⟩), .int .i64 2, .pointer (some ⟨B, 5, none⟩), .int .i64 2] 60)
  have hB0 : Below B w (a2.alloc (.cells #[.pointer (some ⟨B, 0, none⟩), .int .i64 2, .pointer (some ⟨B, 1, none⟩), .int .i64 2, .pointer (some ⟨N, 0, none⟩), .int .i64 4, .pointer (some ⟨N + 1, 0, none⟩), .int .i64 4, .pointer (some ⟨B, 4, none⟩), .int .i64 2, .pointer (some ⟨B, 5, none⟩), .int .i64 2] 60)) := by rw [← hBe] at hB1 ⊢; exact below_alloc hB1 _
  rw [z2] at hL0
  obtain ⟨u0, hu0⟩ : ∃ a, a2.alloc (.cells #[.pointer (some ⟨B, 0, none⟩), .int .i64 2, .pointer (some ⟨B, 1, none⟩), .int .i64 2, .pointer (some ⟨N, 0, none⟩), .int .i64 4, .pointer (some ⟨N + 1, 0, none⟩), .int .i64 4, .pointer (some ⟨B, 4, none⟩), .int .i64 2, .pointer (some ⟨B, 5, none⟩), .int .i64 2] 60) = a := ⟨_, rfl⟩
  rw [hu0] at hR0 hS0 hA0 hL0 hB0 ⊢
  clear hu0
  (try simp only [z2])
  clear hR1 hS1 hA1 hB1 z2
  refine wp_loop_rounds 7 ?_
  -- round 0
  rw [rounds_succ]
  have x0 := (cell_of_row u0 (N + 2) 0 _ 60 (0, 0) hL0).trans (show _ = some (.pointer (some ⟨B, 0, none⟩)) from rfl)
  have x1 := (cell_of_row u0 (N + 2) 1 _ 60 (0, 0) hL0).trans (show _ = some (.int .i64 2) from rfl)
  have HQ := Lib.hid (And.intro hR0 (And.intro hS0 (And.intro hA0 (And.intro hL0 hB0))))
  clear hR0 hS0 hA0 hL0 hB0
  go_wp2_with (fail)
  clear x0 x1
  obtain ⟨hR0, hS0, hA0, hL0, hB0⟩ := HQ.out
  clear HQ
  obtain ⟨X, hX⟩ : ∃ X, u0.heap.size = X := ⟨_, rfl⟩
  have hXN : N + 2 < X := by rw [← hX]; exact blk_lt hL0
  have hx := World.alloc_heap_new u0 (.cells #[.pointer (some ⟨B, 0, none⟩), .int .i64 2] 60)
  have hR := heap_alloc' (.cells #[.pointer (some ⟨B, 0, none⟩), .int .i64 2] 60) hR0
  have hS := heap_alloc' (.cells #[.pointer (some ⟨B, 0, none⟩), .int .i64 2] 60) hS0
  have hA := heap_alloc' (.cells #[.pointer (some ⟨B, 0, none⟩), .int .i64 2] 60) hA0
  have hL := heap_alloc' (.cells #[.pointer (some ⟨B, 0, none⟩), .int .i64 2] 60) hL0
  have hB : Below B w (u0.alloc (.cells #[.pointer (some ⟨B, 0, none⟩), .int .i64 2] 60)) := by rw [← hBe] at hB0 ⊢; exact below_alloc hB0 _
  rw [hX] at hx
  (try rw [hX])
  (try simp only [hX])
  generalize u0.alloc (.cells #[.pointer (some ⟨B, 0, none⟩), .int .i64 2] 60) = v at hx hR hS hA hL hB ⊢
  clear hR0 hS0 hA0 hL0 hB0 hX
  have q0 := (cell_of_row v X 0 _ 60 (0, 0) hx).trans (show _ = some (.pointer (some ⟨B, 0, none⟩)) from rfl)
  have q1 := (cell_of_row v X 1 _ 60 (0, 0) hx).trans (show _ = some (.int .i64 2) from rfl)
  refine start_ (n := 12) (S := fun w' => w'.cell? ⟨X, 0, none⟩ = some (.pointer (some ⟨B, 0, none⟩)) ∧ w'.cell? ⟨X, 1, none⟩ = some (.int .i64 2)) (ds := [11]) #[false, false, false, false, false, false, false, false, false, false, false, false] (by kernel_rfl) rfl rfl ⟨q0, q1⟩ (fun hHeld => ?_)
  have hx' := heap_drew hx
  have hR' := heap_drew hR
  have hS' := heap_drew hS
  have hA' := heap_drew hA
  have hL' := heap_drew hL
  have hB' : Below B w v.drew := by rw [← hBe] at hB ⊢; exact below_drew hB
  clear hx hR hS hA hL hB q0 q1
  generalize v.drew = v2 at hx' hR' hS' hA' hL' hB' hHeld ⊢
  refine pure_ (i := 0) (N := some 54) (v := ?_) (a' := ?_) #[true, false, false, false, false, false, false, false, false, false, false, false] rfl rfl (by kernel_rfl) (fun _ _ _ h => h) (Or.inl ⟨by rfl, ?_⟩) ?_ ?_
  rotate_left
  · intro w'
    go_simp
    with_reducible rfl
  rotate_left
  · simp only [Act.put, List.setIfInBounds_toArray, List.set_cons_zero, List.set_cons_succ, i64_w, i32_w]
    rfl
  refine take_ (i := 1) (N := some 55) (v := ?_) (a' := ?_) #[true, true, false, false, false, false, false, false, false, false, false, false] rfl rfl (by kernel_rfl) (fun _ _ _ h => h) (Or.inl ⟨by rfl, ?_⟩) hHeld ?_ ?_
  rotate_left
  · intro w' s0
    obtain ⟨s0_, s1_⟩ := s0
    go_simp
    with_reducible rfl
  rotate_left
  · simp only [Act.put, List.setIfInBounds_toArray, List.set_cons_zero, List.set_cons_succ, i64_w, i32_w]
    rfl
  refine pure_ (i := 2) (N := some 56) (v := ?_) (a' := ?_) #[true, true, true, false, false, false, false, false, false, false, false, false] rfl rfl (by kernel_rfl) (fun _ _ _ h => h) (Or.inl ⟨by rfl, ?_⟩) ?_ ?_
  rotate_left
  · intro w'
    go_simp
    with_reducible rfl
  rotate_left
  · simp only [Act.put, List.setIfInBounds_toArray, List.set_cons_zero, List.set_cons_succ, i64_w, i32_w]
    rfl
  refine pure_ (i := 3) (N := some 57) (v := ?_) (a' := ?_) #[true, true, true, true, false, false, false, false, false, false, false, false] rfl rfl (by kernel_rfl) (fun _ _ _ h => h) (Or.inl ⟨by rfl, ?_⟩) ?_ ?_
  rotate_left
  · intro w'
    go_simp
    with_reducible rfl
  rotate_left
  · simp only [Act.put, List.setIfInBounds_toArray, List.set_cons_zero, List.set_cons_succ, i64_w, i32_w]
    rfl
  refine pure_ (i := 4) (N := some 58) (v := ?_) (a' := ?_) #[true, true, true, true, true, false, false, false, false, false, false, false] rfl rfl (by kernel_rfl) (fun _ _ _ h => h) (Or.inl ⟨by rfl, ?_⟩) ?_ ?_
  rotate_left
  · intro w'
    go_simp
    with_reducible rfl
  rotate_left
  · simp only [Act.put, List.setIfInBounds_toArray, List.set_cons_zero, List.set_cons_succ, i64_w, i32_w]
    rfl
  refine take_ (i := 5) (N := some 59) (v := ?_) (a' := ?_) #[true, true, true, true, true, true, false, false, false, false, false, false] rfl rfl (by kernel_rfl) (fun _ _ _ h => h) (Or.inl ⟨by rfl, ?_⟩) hHeld ?_ ?_
  rotate_left
  · intro w' s0
    obtain ⟨s0_, s1_⟩ := s0
    go_simp
    with_reducible rfl
  rotate_left
  · simp only [Act.put, List.setIfInBounds_toArray, List.set_cons_zero, List.set_cons_succ, i64_w, i32_w]
    rfl
  refine one_ (i := 6) (N := some 60) #[true, true, true, true, true, true, true, false, false, false, false, false] rfl rfl (by kernel_rfl) (by decide) (fun K hK => ?_)
  refine goes_ Try.func26 (by kernel_rfl) rfl #[.string s, .int .i64 0, .int .i64 2] (by rfl) rfl rfl (by (try simp only [List.map_toArray, List.map_cons, List.map_nil]); first | done | rfl) ?_
  refine (G 0 2 _).mono ?_
  rintro e y_ ⟨rfl, hb⟩
  refine ⟨_, rfl, ?_⟩
  have hR := heap_step' hR' hb
  have hS := heap_step' hS' hb
  have hA := heap_step' hA' hb
  have hL := heap_step' hL' hb
  have hx := heap_step' hx' hb
  have hB := below_stepB hBe hB' hb
  clear hb hR' hS' hA' hL' hx' hB'
  refine hK.out _ _ ⟨(blk_cell hx 0).trans rfl, (blk_cell hx 1).trans rfl⟩ (fun hHeld => ?_)
  clear hK K
  refine norm_ (a' := ?_) ?_ ?_
  rotate_left
  · show Act.put _ (some 60) _ = _
    simp only [Act.put, List.setIfInBounds_toArray, List.set_cons_zero, List.set_cons_succ, i64_w, i32_w]
    rfl
  refine pure_ (i := 7) (N := some 53) (v := ?_) (a' := ?_) #[true, true, true, true, true, true, true, true, false, false, false, false] rfl rfl (by kernel_rfl) (fun _ _ _ h => h) (Or.inl ⟨by rfl, ?_⟩) ?_ ?_
  rotate_left
  · intro w'
    go_simp
    with_reducible rfl
  rotate_left
  · simp only [Act.put, List.setIfInBounds_toArray, List.set_cons_zero, List.set_cons_succ, i64_w, i32_w]
    rfl
  refine pure_ (i := 8) (N := some 61) (v := ?_) (a' := ?_) #[true, true, true, true, true, true, true, true, true, false, false, false] rfl rfl (by kernel_rfl) (fun _ _ _ h => h) (Or.inl ⟨by rfl, ?_⟩) ?_ ?_
  rotate_left
  · intro w'
    go_simp
    with_reducible rfl
  rotate_left
  · simp only [Act.put, List.setIfInBounds_toArray, List.set_cons_zero, List.set_cons_succ, i64_w, i32_w]
    rfl
  refine pure_ (i := 9) (N := some 62) (v := ?_) (a' := ?_) #[true, true, true, true, true, true, true, true, true, true, false, false] rfl rfl (by kernel_rfl) (fun _ _ _ h => h) (Or.inl ⟨by rfl, ?_⟩) ?_ ?_
  rotate_left
  · intro w'
    go_simp
    with_reducible rfl
  rotate_left
  · simp only [Act.put, List.setIfInBounds_toArray, List.set_cons_zero, List.set_cons_succ, i64_w, i32_w]
    rfl
  refine pure_ (i := 10) (N := some 63) (v := ?_) (a' := ?_) #[true, true, true, true, true, true, true, true, true, true, true, false] rfl rfl (by kernel_rfl) (fun _ _ _ h => h) (Or.inl ⟨by rfl, ?_⟩) ?_ ?_
  rotate_left
  · intro w'
    go_simp
    with_reducible rfl
  rotate_left
  · simp only [Act.put, List.setIfInBounds_toArray, List.set_cons_zero, List.set_cons_succ, i64_w, i32_w]
    rfl
  have y0 := (cell_of_row y_ (B) 0 _ 24 (0, 0) hR).trans (show _ = some (.int .i64 0) from rfl)
  have z0 := row_free (i := 0) hR
  refine last_ (i := 11) (N := none) #[true, true, true, true, true, true, true, true, true, true, true, true] rfl rfl (by kernel_rfl) (by decide) (fun K hK => ?_)
  refine skip_ (w1 := ?_) (by rfl) rfl ?_ ?_
  rotate_left
  · go_simp
    rfl
  refine hK.out _ _ ?_
  clear hK K hHeld y0 z0
  refine done_ (by kernel_rfl) ?_
  have hR1 : (y_.setCell ⟨B, 0, none⟩ (.int .i64 (Sp.get (bl s) 0 2).1)).heap[B]? = some (.cells #[.int .i64 (Sp.get (bl s) 0 2).1, .int .i64 0, .int .u32 0, .int .u32 0, .int .i64 0, .int .i64 0, .int .i64 0, .string ⟨#[]⟩] 24 (0, 0)) := blk_put hR 0 _ rfl
  have hS1 : (y_.setCell ⟨B, 0, none⟩ (.int .i64 (Sp.get (bl s) 0 2).1)).heap[N]? = some (.cells #[.int .i64 0] 3 (0, 0)) := (Below.heap_setCell _ _ _ _ (by show N ≠ B; omega)).trans hS
  have hA1 : (y_.setCell ⟨B, 0, none⟩ (.int .i64 (Sp.get (bl s) 0 2).1)).heap[N + 1]? = some (.cells #[.int .i64 0] 3 (0, 0)) := (Below.heap_setCell _ _ _ _ (by show N + 1 ≠ B; omega)).trans hA
  have hL1 : (y_.setCell ⟨B, 0, none⟩ (.int .i64 (Sp.get (bl s) 0 2).1)).heap[N + 2]? = some (.cells #[.pointer (some ⟨B, 0, none⟩), .int .i64 2, .pointer (some ⟨B, 1, none⟩), .int .i64 2, .pointer (some ⟨N, 0, none⟩), .int .i64 4, .pointer (some ⟨N + 1, 0, none⟩), .int .i64 4, .pointer (some ⟨B, 4, none⟩), .int .i64 2, .pointer (some ⟨B, 5, none⟩), .int .i64 2] 60 (0, 0)) := (Below.heap_setCell _ _ _ _ (by show N + 2 ≠ B; omega)).trans hL
  have hx1 : (y_.setCell ⟨B, 0, none⟩ (.int .i64 (Sp.get (bl s) 0 2).1)).heap[X]? = some (.cells #[.pointer (some ⟨B, 0, none⟩), .int .i64 2] 60 (0, 0)) := (Below.heap_setCell _ _ _ _ (by show X ≠ B; omega)).trans hx
  have hB1 : Below B w (y_.setCell ⟨B, 0, none⟩ (.int .i64 (Sp.get (bl s) 0 2).1)) := hB.setCell (show B ≤ B by omega) _
  clear hR hS hA hL hB hx
  generalize (y_.setCell ⟨B, 0, none⟩ (.int .i64 (Sp.get (bl s) 0 2).1)) = u1 at hR1 hS1 hA1 hL1 hB1 hx1 ⊢
  clear y_
  have q1 := (blk_cell hx1 1).trans rfl
  have HQ := Lib.hid (And.intro hR1 (And.intro hS1 (And.intro hA1 (And.intro hL1 hB1))))
  clear hR1 hS1 hA1 hL1 hB1 hx1 hXN
  go_wp2_with (fail)
  obtain ⟨hR1, hS1, hA1, hL1, hB1⟩ := HQ.out
  clear HQ q1
  -- round 1
  rw [rounds_succ]
  have x0 := (cell_of_row u1 (N + 2) 2 _ 60 (0, 0) hL1).trans (show _ = some (.pointer (some ⟨B, 1, none⟩)) from rfl)
  have x1 := (cell_of_row u1 (N + 2) 3 _ 60 (0, 0) hL1).trans (show _ = some (.int .i64 2) from rfl)
  have HQ := Lib.hid (And.intro hR1 (And.intro hS1 (And.intro hA1 (And.intro hL1 hB1))))
  clear hR1 hS1 hA1 hL1 hB1
  go_wp2_with (fail)
  clear x0 x1
  obtain ⟨hR1, hS1, hA1, hL1, hB1⟩ := HQ.out
  clear HQ
  obtain ⟨X, hX⟩ : ∃ X, u1.heap.size = X := ⟨_, rfl⟩
  have hXN : N + 2 < X := by rw [← hX]; exact blk_lt hL1
  have hx := World.alloc_heap_new u1 (.cells #[.pointer (some ⟨B, 1, none⟩), .int .i64 2] 60)
  have hR := heap_alloc' (.cells #[.pointer (some ⟨B, 1, none⟩), .int .i64 2] 60) hR1
  have hS := heap_alloc' (.cells #[.pointer (some ⟨B, 1, none⟩), .int .i64 2] 60) hS1
  have hA := heap_alloc' (.cells #[.pointer (some ⟨B, 1, none⟩), .int .i64 2] 60) hA1
  have hL := heap_alloc' (.cells #[.pointer (some ⟨B, 1, none⟩), .int .i64 2] 60) hL1
  have hB : Below B w (u1.alloc (.cells #[.pointer (some ⟨B, 1, none⟩), .int .i64 2] 60)) := by rw [← hBe] at hB1 ⊢; exact below_alloc hB1 _
  rw [hX] at hx
  (try rw [hX])
  (try simp only [hX])
  generalize u1.alloc (.cells #[.pointer (some ⟨B, 1, none⟩), .int .i64 2] 60) = v at hx hR hS hA hL hB ⊢
  clear hR1 hS1 hA1 hL1 hB1 hX
  have q0 := (cell_of_row v X 0 _ 60 (0, 0) hx).trans (show _ = some (.pointer (some ⟨B, 1, none⟩)) from rfl)
  have q1 := (cell_of_row v X 1 _ 60 (0, 0) hx).trans (show _ = some (.int .i64 2) from rfl)
  refine start_ (n := 12) (S := fun w' => w'.cell? ⟨X, 0, none⟩ = some (.pointer (some ⟨B, 1, none⟩)) ∧ w'.cell? ⟨X, 1, none⟩ = some (.int .i64 2)) (ds := [11]) #[false, false, false, false, false, false, false, false, false, false, false, false] (by kernel_rfl) rfl rfl ⟨q0, q1⟩ (fun hHeld => ?_)
  have hx' := heap_drew hx
  have hR' := heap_drew hR
  have hS' := heap_drew hS
  have hA' := heap_drew hA
  have hL' := heap_drew hL
  have hB' : Below B w v.drew := by rw [← hBe] at hB ⊢; exact below_drew hB
  clear hx hR hS hA hL hB q0 q1
  generalize v.drew = v2 at hx' hR' hS' hA' hL' hB' hHeld ⊢
  refine pure_ (i := 0) (N := some 54) (v := ?_) (a' := ?_) #[true, false, false, false, false, false, false, false, false, false, false, false] rfl rfl (by kernel_rfl) (fun _ _ _ h => h) (Or.inl ⟨by rfl, ?_⟩) ?_ ?_
  rotate_left
  · intro w'
    go_simp
    with_reducible rfl
  rotate_left
  · simp only [Act.put, List.setIfInBounds_toArray, List.set_cons_zero, List.set_cons_succ, i64_w, i32_w]
    rfl
  refine take_ (i := 1) (N := some 55) (v := ?_) (a' := ?_) #[true, true, false, false, false, false, false, false, false, false, false, false] rfl rfl (by kernel_rfl) (fun _ _ _ h => h) (Or.inl ⟨by rfl, ?_⟩) hHeld ?_ ?_
  rotate_left
  · intro w' s0
    obtain ⟨s0_, s1_⟩ := s0
    go_simp
    with_reducible rfl
  rotate_left
  · simp only [Act.put, List.setIfInBounds_toArray, List.set_cons_zero, List.set_cons_succ, i64_w, i32_w]
    rfl
  refine pure_ (i := 2) (N := some 56) (v := ?_) (a' := ?_) #[true, true, true, false, false, false, false, false, false, false, false, false] rfl rfl (by kernel_rfl) (fun _ _ _ h => h) (Or.inl ⟨by rfl, ?_⟩) ?_ ?_
  rotate_left
  · intro w'
    go_simp
    with_reducible rfl
  rotate_left
  · simp only [Act.put, List.setIfInBounds_toArray, List.set_cons_zero, List.set_cons_succ, i64_w, i32_w]
    rfl
  refine pure_ (i := 3) (N := some 57) (v := ?_) (a' := ?_) #[true, true, true, true, false, false, false, false, false, false, false, false] rfl rfl (by kernel_rfl) (fun _ _ _ h => h) (Or.inl ⟨by rfl, ?_⟩) ?_ ?_
  rotate_left
  · intro w'
    go_simp
    with_reducible rfl
  rotate_left
  · simp only [Act.put, List.setIfInBounds_toArray, List.set_cons_zero, List.set_cons_succ, i64_w, i32_w]
    rfl
  refine pure_ (i := 4) (N := some 58) (v := ?_) (a' := ?_) #[true, true, true, true, true, false, false, false, false, false, false, false] rfl rfl (by kernel_rfl) (fun _ _ _ h => h) (Or.inl ⟨by rfl, ?_⟩) ?_ ?_
  rotate_left
  · intro w'
    go_simp
    with_reducible rfl
  rotate_left
  · simp only [Act.put, List.setIfInBounds_toArray, List.set_cons_zero, List.set_cons_succ, i64_w, i32_w]
    rfl
  refine take_ (i := 5) (N := some 59) (v := ?_) (a' := ?_) #[true, true, true, true, true, true, false, false, false, false, false, false] rfl rfl (by kernel_rfl) (fun _ _ _ h => h) (Or.inl ⟨by rfl, ?_⟩) hHeld ?_ ?_
  rotate_left
  · intro w' s0
    obtain ⟨s0_, s1_⟩ := s0
    go_simp
    with_reducible rfl
  rotate_left
  · simp only [Act.put, List.setIfInBounds_toArray, List.set_cons_zero, List.set_cons_succ, i64_w, i32_w]
    rfl
  refine one_ (i := 6) (N := some 60) #[true, true, true, true, true, true, true, false, false, false, false, false] rfl rfl (by kernel_rfl) (by decide) (fun K hK => ?_)
  refine goes_ Try.func26 (by kernel_rfl) rfl #[.string s, .int .i64 2, .int .i64 2] (by rfl) rfl rfl (by (try simp only [List.map_toArray, List.map_cons, List.map_nil]); first | done | rfl) ?_
  refine (G 2 2 _).mono ?_
  rintro e y_ ⟨rfl, hb⟩
  refine ⟨_, rfl, ?_⟩
  have hR := heap_step' hR' hb
  have hS := heap_step' hS' hb
  have hA := heap_step' hA' hb
  have hL := heap_step' hL' hb
  have hx := heap_step' hx' hb
  have hB := below_stepB hBe hB' hb
  clear hb hR' hS' hA' hL' hx' hB'
  refine hK.out _ _ ⟨(blk_cell hx 0).trans rfl, (blk_cell hx 1).trans rfl⟩ (fun hHeld => ?_)
  clear hK K
  refine norm_ (a' := ?_) ?_ ?_
  rotate_left
  · show Act.put _ (some 60) _ = _
    simp only [Act.put, List.setIfInBounds_toArray, List.set_cons_zero, List.set_cons_succ, i64_w, i32_w]
    rfl
  refine pure_ (i := 7) (N := some 53) (v := ?_) (a' := ?_) #[true, true, true, true, true, true, true, true, false, false, false, false] rfl rfl (by kernel_rfl) (fun _ _ _ h => h) (Or.inl ⟨by rfl, ?_⟩) ?_ ?_
  rotate_left
  · intro w'
    go_simp
    with_reducible rfl
  rotate_left
  · simp only [Act.put, List.setIfInBounds_toArray, List.set_cons_zero, List.set_cons_succ, i64_w, i32_w]
    rfl
  refine pure_ (i := 8) (N := some 61) (v := ?_) (a' := ?_) #[true, true, true, true, true, true, true, true, true, false, false, false] rfl rfl (by kernel_rfl) (fun _ _ _ h => h) (Or.inl ⟨by rfl, ?_⟩) ?_ ?_
  rotate_left
  · intro w'
    go_simp
    with_reducible rfl
  rotate_left
  · simp only [Act.put, List.setIfInBounds_toArray, List.set_cons_zero, List.set_cons_succ, i64_w, i32_w]
    rfl
  refine pure_ (i := 9) (N := some 62) (v := ?_) (a' := ?_) #[true, true, true, true, true, true, true, true, true, true, false, false] rfl rfl (by kernel_rfl) (fun _ _ _ h => h) (Or.inl ⟨by rfl, ?_⟩) ?_ ?_
  rotate_left
  · intro w'
    go_simp
    with_reducible rfl
  rotate_left
  · simp only [Act.put, List.setIfInBounds_toArray, List.set_cons_zero, List.set_cons_succ, i64_w, i32_w]
    rfl
  refine pure_ (i := 10) (N := some 63) (v := ?_) (a' := ?_) #[true, true, true, true, true, true, true, true, true, true, true, false] rfl rfl (by kernel_rfl) (fun _ _ _ h => h) (Or.inl ⟨by rfl, ?_⟩) ?_ ?_
  rotate_left
  · intro w'
    go_simp
    with_reducible rfl
  rotate_left
  · simp only [Act.put, List.setIfInBounds_toArray, List.set_cons_zero, List.set_cons_succ, i64_w, i32_w]
    rfl
  have y0 := (cell_of_row y_ (B) 1 _ 24 (0, 0) hR).trans (show _ = some (.int .i64 0) from rfl)
  have z0 := row_free (i := 1) hR
  refine last_ (i := 11) (N := none) #[true, true, true, true, true, true, true, true, true, true, true, true] rfl rfl (by kernel_rfl) (by decide) (fun K hK => ?_)
  refine skip_ (w1 := ?_) (by rfl) rfl ?_ ?_
  rotate_left
  · go_simp
    rfl
  refine hK.out _ _ ?_
  clear hK K hHeld y0 z0
  refine done_ (by kernel_rfl) ?_
  have hR2 : (y_.setCell ⟨B, 1, none⟩ (.int .i64 (Sp.get (bl s) 2 2).1)).heap[B]? = some (.cells #[.int .i64 (Sp.get (bl s) 0 2).1, .int .i64 (Sp.get (bl s) 2 2).1, .int .u32 0, .int .u32 0, .int .i64 0, .int .i64 0, .int .i64 0, .string ⟨#[]⟩] 24 (0, 0)) := blk_put hR 1 _ rfl
  have hS2 : (y_.setCell ⟨B, 1, none⟩ (.int .i64 (Sp.get (bl s) 2 2).1)).heap[N]? = some (.cells #[.int .i64 0] 3 (0, 0)) := (Below.heap_setCell _ _ _ _ (by show N ≠ B; omega)).trans hS
  have hA2 : (y_.setCell ⟨B, 1, none⟩ (.int .i64 (Sp.get (bl s) 2 2).1)).heap[N + 1]? = some (.cells #[.int .i64 0] 3 (0, 0)) := (Below.heap_setCell _ _ _ _ (by show N + 1 ≠ B; omega)).trans hA
  have hL2 : (y_.setCell ⟨B, 1, none⟩ (.int .i64 (Sp.get (bl s) 2 2).1)).heap[N + 2]? = some (.cells #[.pointer (some ⟨B, 0, none⟩), .int .i64 2, .pointer (some ⟨B, 1, none⟩), .int .i64 2, .pointer (some ⟨N, 0, none⟩), .int .i64 4, .pointer (some ⟨N + 1, 0, none⟩), .int .i64 4, .pointer (some ⟨B, 4, none⟩), .int .i64 2, .pointer (some ⟨B, 5, none⟩), .int .i64 2] 60 (0, 0)) := (Below.heap_setCell _ _ _ _ (by show N + 2 ≠ B; omega)).trans hL
  have hx2 : (y_.setCell ⟨B, 1, none⟩ (.int .i64 (Sp.get (bl s) 2 2).1)).heap[X]? = some (.cells #[.pointer (some ⟨B, 1, none⟩), .int .i64 2] 60 (0, 0)) := (Below.heap_setCell _ _ _ _ (by show X ≠ B; omega)).trans hx
  have hB2 : Below B w (y_.setCell ⟨B, 1, none⟩ (.int .i64 (Sp.get (bl s) 2 2).1)) := hB.setCell (show B ≤ B by omega) _
  clear hR hS hA hL hB hx
  generalize (y_.setCell ⟨B, 1, none⟩ (.int .i64 (Sp.get (bl s) 2 2).1)) = u2 at hR2 hS2 hA2 hL2 hB2 hx2 ⊢
  clear y_
  have q1 := (blk_cell hx2 1).trans rfl
  have HQ := Lib.hid (And.intro hR2 (And.intro hS2 (And.intro hA2 (And.intro hL2 hB2))))
  clear hR2 hS2 hA2 hL2 hB2 hx2 hXN
  go_wp2_with (fail)
  obtain ⟨hR2, hS2, hA2, hL2, hB2⟩ := HQ.out
  clear HQ q1
  -- round 2
  rw [rounds_succ]
  have x0 := (cell_of_row u2 (N + 2) 4 _ 60 (0, 0) hL2).trans (show _ = some (.pointer (some ⟨N, 0, none⟩)) from rfl)
  have x1 := (cell_of_row u2 (N + 2) 5 _ 60 (0, 0) hL2).trans (show _ = some (.int .i64 4) from rfl)
  have HQ := Lib.hid (And.intro hR2 (And.intro hS2 (And.intro hA2 (And.intro hL2 hB2))))
  clear hR2 hS2 hA2 hL2 hB2
  go_wp2_with (fail)
  clear x0 x1
  obtain ⟨hR2, hS2, hA2, hL2, hB2⟩ := HQ.out
  clear HQ
  obtain ⟨X, hX⟩ : ∃ X, u2.heap.size = X := ⟨_, rfl⟩
  have hXN : N + 2 < X := by rw [← hX]; exact blk_lt hL2
  have hx := World.alloc_heap_new u2 (.cells #[.pointer (some ⟨N, 0, none⟩), .int .i64 4] 60)
  have hR := heap_alloc' (.cells #[.pointer (some ⟨N, 0, none⟩), .int .i64 4] 60) hR2
  have hS := heap_alloc' (.cells #[.pointer (some ⟨N, 0, none⟩), .int .i64 4] 60) hS2
  have hA := heap_alloc' (.cells #[.pointer (some ⟨N, 0, none⟩), .int .i64 4] 60) hA2
  have hL := heap_alloc' (.cells #[.pointer (some ⟨N, 0, none⟩), .int .i64 4] 60) hL2
  have hB : Below B w (u2.alloc (.cells #[.pointer (some ⟨N, 0, none⟩), .int .i64 4] 60)) := by rw [← hBe] at hB2 ⊢; exact below_alloc hB2 _
  rw [hX] at hx
  (try rw [hX])
  (try simp only [hX])
  generalize u2.alloc (.cells #[.pointer (some ⟨N, 0, none⟩), .int .i64 4] 60) = v at hx hR hS hA hL hB ⊢
  clear hR2 hS2 hA2 hL2 hB2 hX
  have q0 := (cell_of_row v X 0 _ 60 (0, 0) hx).trans (show _ = some (.pointer (some ⟨N, 0, none⟩)) from rfl)
  have q1 := (cell_of_row v X 1 _ 60 (0, 0) hx).trans (show _ = some (.int .i64 4) from rfl)
  refine start_ (n := 12) (S := fun w' => w'.cell? ⟨X, 0, none⟩ = some (.pointer (some ⟨N, 0, none⟩)) ∧ w'.cell? ⟨X, 1, none⟩ = some (.int .i64 4)) (ds := [11]) #[false, false, false, false, false, false, false, false, false, false, false, false] (by kernel_rfl) rfl rfl ⟨q0, q1⟩ (fun hHeld => ?_)
  have hx' := heap_drew hx
  have hR' := heap_drew hR
  have hS' := heap_drew hS
  have hA' := heap_drew hA
  have hL' := heap_drew hL
  have hB' : Below B w v.drew := by rw [← hBe] at hB ⊢; exact below_drew hB
  clear hx hR hS hA hL hB q0 q1
  generalize v.drew = v2 at hx' hR' hS' hA' hL' hB' hHeld ⊢
  refine pure_ (i := 0) (N := some 54) (v := ?_) (a' := ?_) #[true, false, false, false, false, false, false, false, false, false, false, false] rfl rfl (by kernel_rfl) (fun _ _ _ h => h) (Or.inl ⟨by rfl, ?_⟩) ?_ ?_
  rotate_left
  · intro w'
    go_simp
    with_reducible rfl
  rotate_left
  · simp only [Act.put, List.setIfInBounds_toArray, List.set_cons_zero, List.set_cons_succ, i64_w, i32_w]
    rfl
  refine take_ (i := 1) (N := some 55) (v := ?_) (a' := ?_) #[true, true, false, false, false, false, false, false, false, false, false, false] rfl rfl (by kernel_rfl) (fun _ _ _ h => h) (Or.inl ⟨by rfl, ?_⟩) hHeld ?_ ?_
  rotate_left
  · intro w' s0
    obtain ⟨s0_, s1_⟩ := s0
    go_simp
    with_reducible rfl
  rotate_left
  · simp only [Act.put, List.setIfInBounds_toArray, List.set_cons_zero, List.set_cons_succ, i64_w, i32_w]
    rfl
  refine pure_ (i := 2) (N := some 56) (v := ?_) (a' := ?_) #[true, true, true, false, false, false, false, false, false, false, false, false] rfl rfl (by kernel_rfl) (fun _ _ _ h => h) (Or.inl ⟨by rfl, ?_⟩) ?_ ?_
  rotate_left
  · intro w'
    go_simp
    with_reducible rfl
  rotate_left
  · simp only [Act.put, List.setIfInBounds_toArray, List.set_cons_zero, List.set_cons_succ, i64_w, i32_w]
    rfl
  refine pure_ (i := 3) (N := some 57) (v := ?_) (a' := ?_) #[true, true, true, true, false, false, false, false, false, false, false, false] rfl rfl (by kernel_rfl) (fun _ _ _ h => h) (Or.inl ⟨by rfl, ?_⟩) ?_ ?_
  rotate_left
  · intro w'
    go_simp
    with_reducible rfl
  rotate_left
  · simp only [Act.put, List.setIfInBounds_toArray, List.set_cons_zero, List.set_cons_succ, i64_w, i32_w]
    rfl
  refine pure_ (i := 4) (N := some 58) (v := ?_) (a' := ?_) #[true, true, true, true, true, false, false, false, false, false, false, false] rfl rfl (by kernel_rfl) (fun _ _ _ h => h) (Or.inl ⟨by rfl, ?_⟩) ?_ ?_
  rotate_left
  · intro w'
    go_simp
    with_reducible rfl
  rotate_left
  · simp only [Act.put, List.setIfInBounds_toArray, List.set_cons_zero, List.set_cons_succ, i64_w, i32_w]
    rfl
  refine take_ (i := 5) (N := some 59) (v := ?_) (a' := ?_) #[true, true, true, true, true, true, false, false, false, false, false, false] rfl rfl (by kernel_rfl) (fun _ _ _ h => h) (Or.inl ⟨by rfl, ?_⟩) hHeld ?_ ?_
  rotate_left
  · intro w' s0
    obtain ⟨s0_, s1_⟩ := s0
    go_simp
    with_reducible rfl
  rotate_left
  · simp only [Act.put, List.setIfInBounds_toArray, List.set_cons_zero, List.set_cons_succ, i64_w, i32_w]
    rfl
  refine one_ (i := 6) (N := some 60) #[true, true, true, true, true, true, true, false, false, false, false, false] rfl rfl (by kernel_rfl) (by decide) (fun K hK => ?_)
  refine goes_ Try.func26 (by kernel_rfl) rfl #[.string s, .int .i64 4, .int .i64 4] (by rfl) rfl rfl (by (try simp only [List.map_toArray, List.map_cons, List.map_nil]); first | done | rfl) ?_
  refine (G 4 4 _).mono ?_
  rintro e y_ ⟨rfl, hb⟩
  refine ⟨_, rfl, ?_⟩
  have hR := heap_step' hR' hb
  have hS := heap_step' hS' hb
  have hA := heap_step' hA' hb
  have hL := heap_step' hL' hb
  have hx := heap_step' hx' hb
  have hB := below_stepB hBe hB' hb
  clear hb hR' hS' hA' hL' hx' hB'
  refine hK.out _ _ ⟨(blk_cell hx 0).trans rfl, (blk_cell hx 1).trans rfl⟩ (fun hHeld => ?_)
  clear hK K
  refine norm_ (a' := ?_) ?_ ?_
  rotate_left
  · show Act.put _ (some 60) _ = _
    simp only [Act.put, List.setIfInBounds_toArray, List.set_cons_zero, List.set_cons_succ, i64_w, i32_w]
    rfl
  refine pure_ (i := 7) (N := some 53) (v := ?_) (a' := ?_) #[true, true, true, true, true, true, true, true, false, false, false, false] rfl rfl (by kernel_rfl) (fun _ _ _ h => h) (Or.inl ⟨by rfl, ?_⟩) ?_ ?_
  rotate_left
  · intro w'
    go_simp
    with_reducible rfl
  rotate_left
  · simp only [Act.put, List.setIfInBounds_toArray, List.set_cons_zero, List.set_cons_succ, i64_w, i32_w]
    rfl
  refine pure_ (i := 8) (N := some 61) (v := ?_) (a' := ?_) #[true, true, true, true, true, true, true, true, true, false, false, false] rfl rfl (by kernel_rfl) (fun _ _ _ h => h) (Or.inl ⟨by rfl, ?_⟩) ?_ ?_
  rotate_left
  · intro w'
    go_simp
    with_reducible rfl
  rotate_left
  · simp only [Act.put, List.setIfInBounds_toArray, List.set_cons_zero, List.set_cons_succ, i64_w, i32_w]
    rfl
  refine pure_ (i := 9) (N := some 62) (v := ?_) (a' := ?_) #[true, true, true, true, true, true, true, true, true, true, false, false] rfl rfl (by kernel_rfl) (fun _ _ _ h => h) (Or.inl ⟨by rfl, ?_⟩) ?_ ?_
  rotate_left
  · intro w'
    go_simp
    with_reducible rfl
  rotate_left
  · simp only [Act.put, List.setIfInBounds_toArray, List.set_cons_zero, List.set_cons_succ, i64_w, i32_w]
    rfl
  refine pure_ (i := 10) (N := some 63) (v := ?_) (a' := ?_) #[true, true, true, true, true, true, true, true, true, true, true, false] rfl rfl (by kernel_rfl) (fun _ _ _ h => h) (Or.inl ⟨by rfl, ?_⟩) ?_ ?_
  rotate_left
  · intro w'
    go_simp
    with_reducible rfl
  rotate_left
  · simp only [Act.put, List.setIfInBounds_toArray, List.set_cons_zero, List.set_cons_succ, i64_w, i32_w]
    rfl
  have y0 := (cell_of_row y_ (N) 0 _ 3 (0, 0) hS).trans (show _ = some (.int .i64 0) from rfl)
  have z0 := row_free (i := 0) hS
  refine last_ (i := 11) (N := none) #[true, true, true, true, true, true, true, true, true, true, true, true] rfl rfl (by kernel_rfl) (by decide) (fun K hK => ?_)
  refine skip_ (w1 := ?_) (by rfl) rfl ?_ ?_
  rotate_left
  · go_simp
    rfl
  refine hK.out _ _ ?_
  clear hK K hHeld y0 z0
  refine done_ (by kernel_rfl) ?_
  have hR3 : (y_.setCell ⟨N, 0, none⟩ (.int .i64 (Sp.get (bl s) 4 4).1)).heap[B]? = some (.cells #[.int .i64 (Sp.get (bl s) 0 2).1, .int .i64 (Sp.get (bl s) 2 2).1, .int .u32 0, .int .u32 0, .int .i64 0, .int .i64 0, .int .i64 0, .string ⟨#[]⟩] 24 (0, 0)) := (Below.heap_setCell _ _ _ _ (by show B ≠ N; omega)).trans hR
  have hS3 : (y_.setCell ⟨N, 0, none⟩ (.int .i64 (Sp.get (bl s) 4 4).1)).heap[N]? = some (.cells #[.int .i64 (Sp.get (bl s) 4 4).1] 3 (0, 0)) := blk_put hS 0 _ rfl
  have hA3 : (y_.setCell ⟨N, 0, none⟩ (.int .i64 (Sp.get (bl s) 4 4).1)).heap[N + 1]? = some (.cells #[.int .i64 0] 3 (0, 0)) := (Below.heap_setCell _ _ _ _ (by show N + 1 ≠ N; omega)).trans hA
  have hL3 : (y_.setCell ⟨N, 0, none⟩ (.int .i64 (Sp.get (bl s) 4 4).1)).heap[N + 2]? = some (.cells #[.pointer (some ⟨B, 0, none⟩), .int .i64 2, .pointer (some ⟨B, 1, none⟩), .int .i64 2, .pointer (some ⟨N, 0, none⟩), .int .i64 4, .pointer (some ⟨N + 1, 0, none⟩), .int .i64 4, .pointer (some ⟨B, 4, none⟩), .int .i64 2, .pointer (some ⟨B, 5, none⟩), .int .i64 2] 60 (0, 0)) := (Below.heap_setCell _ _ _ _ (by show N + 2 ≠ N; omega)).trans hL
  have hx3 : (y_.setCell ⟨N, 0, none⟩ (.int .i64 (Sp.get (bl s) 4 4).1)).heap[X]? = some (.cells #[.pointer (some ⟨N, 0, none⟩), .int .i64 4] 60 (0, 0)) := (Below.heap_setCell _ _ _ _ (by show X ≠ N; omega)).trans hx
  have hB3 : Below B w (y_.setCell ⟨N, 0, none⟩ (.int .i64 (Sp.get (bl s) 4 4).1)) := hB.setCell (show B ≤ N by omega) _
  clear hR hS hA hL hB hx
  generalize (y_.setCell ⟨N, 0, none⟩ (.int .i64 (Sp.get (bl s) 4 4).1)) = u3 at hR3 hS3 hA3 hL3 hB3 hx3 ⊢
  clear y_
  have q1 := (blk_cell hx3 1).trans rfl
  have HQ := Lib.hid (And.intro hR3 (And.intro hS3 (And.intro hA3 (And.intro hL3 hB3))))
  clear hR3 hS3 hA3 hL3 hB3 hx3 hXN
  go_wp2_with (fail)
  obtain ⟨hR3, hS3, hA3, hL3, hB3⟩ := HQ.out
  clear HQ q1
  -- round 3
  rw [rounds_succ]
  have x0 := (cell_of_row u3 (N + 2) 6 _ 60 (0, 0) hL3).trans (show _ = some (.pointer (some ⟨N + 1, 0, none⟩)) from rfl)
  have x1 := (cell_of_row u3 (N + 2) 7 _ 60 (0, 0) hL3).trans (show _ = some (.int .i64 4) from rfl)
  have HQ := Lib.hid (And.intro hR3 (And.intro hS3 (And.intro hA3 (And.intro hL3 hB3))))
  clear hR3 hS3 hA3 hL3 hB3
  go_wp2_with (fail)
  clear x0 x1
  obtain ⟨hR3, hS3, hA3, hL3, hB3⟩ := HQ.out
  clear HQ
  obtain ⟨X, hX⟩ : ∃ X, u3.heap.size = X := ⟨_, rfl⟩
  have hXN : N + 2 < X := by rw [← hX]; exact blk_lt hL3
  have hx := World.alloc_heap_new u3 (.cells #[.pointer (some ⟨N + 1, 0, none⟩), .int .i64 4] 60)
  have hR := heap_alloc' (.cells #[.pointer (some ⟨N + 1, 0, none⟩), .int .i64 4] 60) hR3
  have hS := heap_alloc' (.cells #[.pointer (some ⟨N + 1, 0, none⟩), .int .i64 4] 60) hS3
  have hA := heap_alloc' (.cells #[.pointer (some ⟨N + 1, 0, none⟩), .int .i64 4] 60) hA3
  have hL := heap_alloc' (.cells #[.pointer (some ⟨N + 1, 0, none⟩), .int .i64 4] 60) hL3
  have hB : Below B w (u3.alloc (.cells #[.pointer (some ⟨N + 1, 0, none⟩), .int .i64 4] 60)) := by rw [← hBe] at hB3 ⊢; exact below_alloc hB3 _
  rw [hX] at hx
  (try rw [hX])
  (try simp only [hX])
  generalize u3.alloc (.cells #[.pointer (some ⟨N + 1, 0, none⟩), .int .i64 4] 60) = v at hx hR hS hA hL hB ⊢
  clear hR3 hS3 hA3 hL3 hB3 hX
  have q0 := (cell_of_row v X 0 _ 60 (0, 0) hx).trans (show _ = some (.pointer (some ⟨N + 1, 0, none⟩)) from rfl)
  have q1 := (cell_of_row v X 1 _ 60 (0, 0) hx).trans (show _ = some (.int .i64 4) from rfl)
  refine start_ (n := 12) (S := fun w' => w'.cell? ⟨X, 0, none⟩ = some (.pointer (some ⟨N + 1, 0, none⟩)) ∧ w'.cell? ⟨X, 1, none⟩ = some (.int .i64 4)) (ds := [11]) #[false, false, false, false, false, false, false, false, false, false, false, false] (by kernel_rfl) rfl rfl ⟨q0, q1⟩ (fun hHeld => ?_)
  have hx' := heap_drew hx
  have hR' := heap_drew hR
  have hS' := heap_drew hS
  have hA' := heap_drew hA
  have hL' := heap_drew hL
  have hB' : Below B w v.drew := by rw [← hBe] at hB ⊢; exact below_drew hB
  clear hx hR hS hA hL hB q0 q1
  generalize v.drew = v2 at hx' hR' hS' hA' hL' hB' hHeld ⊢
  refine pure_ (i := 0) (N := some 54) (v := ?_) (a' := ?_) #[true, false, false, false, false, false, false, false, false, false, false, false] rfl rfl (by kernel_rfl) (fun _ _ _ h => h) (Or.inl ⟨by rfl, ?_⟩) ?_ ?_
  rotate_left
  · intro w'
    go_simp
    with_reducible rfl
  rotate_left
  · simp only [Act.put, List.setIfInBounds_toArray, List.set_cons_zero, List.set_cons_succ, i64_w, i32_w]
    rfl
  refine take_ (i := 1) (N := some 55) (v := ?_) (a' := ?_) #[true, true, false, false, false, false, false, false, false, false, false, false] rfl rfl (by kernel_rfl) (fun _ _ _ h => h) (Or.inl ⟨by rfl, ?_⟩) hHeld ?_ ?_
  rotate_left
  · intro w' s0
    obtain ⟨s0_, s1_⟩ := s0
    go_simp
    with_reducible rfl
  rotate_left
  · simp only [Act.put, List.setIfInBounds_toArray, List.set_cons_zero, List.set_cons_succ, i64_w, i32_w]
    rfl
  refine pure_ (i := 2) (N := some 56) (v := ?_) (a' := ?_) #[true, true, true, false, false, false, false, false, false, false, false, false] rfl rfl (by kernel_rfl) (fun _ _ _ h => h) (Or.inl ⟨by rfl, ?_⟩) ?_ ?_
  rotate_left
  · intro w'
    go_simp
    with_reducible rfl
  rotate_left
  · simp only [Act.put, List.setIfInBounds_toArray, List.set_cons_zero, List.set_cons_succ, i64_w, i32_w]
    rfl
  refine pure_ (i := 3) (N := some 57) (v := ?_) (a' := ?_) #[true, true, true, true, false, false, false, false, false, false, false, false] rfl rfl (by kernel_rfl) (fun _ _ _ h => h) (Or.inl ⟨by rfl, ?_⟩) ?_ ?_
  rotate_left
  · intro w'
    go_simp
    with_reducible rfl
  rotate_left
  · simp only [Act.put, List.setIfInBounds_toArray, List.set_cons_zero, List.set_cons_succ, i64_w, i32_w]
    rfl
  refine pure_ (i := 4) (N := some 58) (v := ?_) (a' := ?_) #[true, true, true, true, true, false, false, false, false, false, false, false] rfl rfl (by kernel_rfl) (fun _ _ _ h => h) (Or.inl ⟨by rfl, ?_⟩) ?_ ?_
  rotate_left
  · intro w'
    go_simp
    with_reducible rfl
  rotate_left
  · simp only [Act.put, List.setIfInBounds_toArray, List.set_cons_zero, List.set_cons_succ, i64_w, i32_w]
    rfl
  refine take_ (i := 5) (N := some 59) (v := ?_) (a' := ?_) #[true, true, true, true, true, true, false, false, false, false, false, false] rfl rfl (by kernel_rfl) (fun _ _ _ h => h) (Or.inl ⟨by rfl, ?_⟩) hHeld ?_ ?_
  rotate_left
  · intro w' s0
    obtain ⟨s0_, s1_⟩ := s0
    go_simp
    with_reducible rfl
  rotate_left
  · simp only [Act.put, List.setIfInBounds_toArray, List.set_cons_zero, List.set_cons_succ, i64_w, i32_w]
    rfl
  refine one_ (i := 6) (N := some 60) #[true, true, true, true, true, true, true, false, false, false, false, false] rfl rfl (by kernel_rfl) (by decide) (fun K hK => ?_)
  refine goes_ Try.func26 (by kernel_rfl) rfl #[.string s, .int .i64 8, .int .i64 4] (by rfl) rfl rfl (by (try simp only [List.map_toArray, List.map_cons, List.map_nil]); first | done | rfl) ?_
  refine (G 8 4 _).mono ?_
  rintro e y_ ⟨rfl, hb⟩
  refine ⟨_, rfl, ?_⟩
  have hR := heap_step' hR' hb
  have hS := heap_step' hS' hb
  have hA := heap_step' hA' hb
  have hL := heap_step' hL' hb
  have hx := heap_step' hx' hb
  have hB := below_stepB hBe hB' hb
  clear hb hR' hS' hA' hL' hx' hB'
  refine hK.out _ _ ⟨(blk_cell hx 0).trans rfl, (blk_cell hx 1).trans rfl⟩ (fun hHeld => ?_)
  clear hK K
  refine norm_ (a' := ?_) ?_ ?_
  rotate_left
  · show Act.put _ (some 60) _ = _
    simp only [Act.put, List.setIfInBounds_toArray, List.set_cons_zero, List.set_cons_succ, i64_w, i32_w]
    rfl
  refine pure_ (i := 7) (N := some 53) (v := ?_) (a' := ?_) #[true, true, true, true, true, true, true, true, false, false, false, false] rfl rfl (by kernel_rfl) (fun _ _ _ h => h) (Or.inl ⟨by rfl, ?_⟩) ?_ ?_
  rotate_left
  · intro w'
    go_simp
    with_reducible rfl
  rotate_left
  · simp only [Act.put, List.setIfInBounds_toArray, List.set_cons_zero, List.set_cons_succ, i64_w, i32_w]
    rfl
  refine pure_ (i := 8) (N := some 61) (v := ?_) (a' := ?_) #[true, true, true, true, true, true, true, true, true, false, false, false] rfl rfl (by kernel_rfl) (fun _ _ _ h => h) (Or.inl ⟨by rfl, ?_⟩) ?_ ?_
  rotate_left
  · intro w'
    go_simp
    with_reducible rfl
  rotate_left
  · simp only [Act.put, List.setIfInBounds_toArray, List.set_cons_zero, List.set_cons_succ, i64_w, i32_w]
    rfl
  refine pure_ (i := 9) (N := some 62) (v := ?_) (a' := ?_) #[true, true, true, true, true, true, true, true, true, true, false, false] rfl rfl (by kernel_rfl) (fun _ _ _ h => h) (Or.inl ⟨by rfl, ?_⟩) ?_ ?_
  rotate_left
  · intro w'
    go_simp
    with_reducible rfl
  rotate_left
  · simp only [Act.put, List.setIfInBounds_toArray, List.set_cons_zero, List.set_cons_succ, i64_w, i32_w]
    rfl
  refine pure_ (i := 10) (N := some 63) (v := ?_) (a' := ?_) #[true, true, true, true, true, true, true, true, true, true, true, false] rfl rfl (by kernel_rfl) (fun _ _ _ h => h) (Or.inl ⟨by rfl, ?_⟩) ?_ ?_
  rotate_left
  · intro w'
    go_simp
    with_reducible rfl
  rotate_left
  · simp only [Act.put, List.setIfInBounds_toArray, List.set_cons_zero, List.set_cons_succ, i64_w, i32_w]
    rfl
  have y0 := (cell_of_row y_ (N + 1) 0 _ 3 (0, 0) hA).trans (show _ = some (.int .i64 0) from rfl)
  have z0 := row_free (i := 0) hA
  refine last_ (i := 11) (N := none) #[true, true, true, true, true, true, true, true, true, true, true, true] rfl rfl (by kernel_rfl) (by decide) (fun K hK => ?_)
  refine skip_ (w1 := ?_) (by rfl) rfl ?_ ?_
  rotate_left
  · go_simp
    rfl
  refine hK.out _ _ ?_
  clear hK K hHeld y0 z0
  refine done_ (by kernel_rfl) ?_
  have hR4 : (y_.setCell ⟨N + 1, 0, none⟩ (.int .i64 (Sp.get (bl s) 8 4).1)).heap[B]? = some (.cells #[.int .i64 (Sp.get (bl s) 0 2).1, .int .i64 (Sp.get (bl s) 2 2).1, .int .u32 0, .int .u32 0, .int .i64 0, .int .i64 0, .int .i64 0, .string ⟨#[]⟩] 24 (0, 0)) := (Below.heap_setCell _ _ _ _ (by show B ≠ N + 1; omega)).trans hR
  have hS4 : (y_.setCell ⟨N + 1, 0, none⟩ (.int .i64 (Sp.get (bl s) 8 4).1)).heap[N]? = some (.cells #[.int .i64 (Sp.get (bl s) 4 4).1] 3 (0, 0)) := (Below.heap_setCell _ _ _ _ (by show N ≠ N + 1; omega)).trans hS
  have hA4 : (y_.setCell ⟨N + 1, 0, none⟩ (.int .i64 (Sp.get (bl s) 8 4).1)).heap[N + 1]? = some (.cells #[.int .i64 (Sp.get (bl s) 8 4).1] 3 (0, 0)) := blk_put hA 0 _ rfl
  have hL4 : (y_.setCell ⟨N + 1, 0, none⟩ (.int .i64 (Sp.get (bl s) 8 4).1)).heap[N + 2]? = some (.cells #[.pointer (some ⟨B, 0, none⟩), .int .i64 2, .pointer (some ⟨B, 1, none⟩), .int .i64 2, .pointer (some ⟨N, 0, none⟩), .int .i64 4, .pointer (some ⟨N + 1, 0, none⟩), .int .i64 4, .pointer (some ⟨B, 4, none⟩), .int .i64 2, .pointer (some ⟨B, 5, none⟩), .int .i64 2] 60 (0, 0)) := (Below.heap_setCell _ _ _ _ (by show N + 2 ≠ N + 1; omega)).trans hL
  have hx4 : (y_.setCell ⟨N + 1, 0, none⟩ (.int .i64 (Sp.get (bl s) 8 4).1)).heap[X]? = some (.cells #[.pointer (some ⟨N + 1, 0, none⟩), .int .i64 4] 60 (0, 0)) := (Below.heap_setCell _ _ _ _ (by show X ≠ N + 1; omega)).trans hx
  have hB4 : Below B w (y_.setCell ⟨N + 1, 0, none⟩ (.int .i64 (Sp.get (bl s) 8 4).1)) := hB.setCell (show B ≤ N + 1 by omega) _
  clear hR hS hA hL hB hx
  generalize (y_.setCell ⟨N + 1, 0, none⟩ (.int .i64 (Sp.get (bl s) 8 4).1)) = u4 at hR4 hS4 hA4 hL4 hB4 hx4 ⊢
  clear y_
  have q1 := (blk_cell hx4 1).trans rfl
  have HQ := Lib.hid (And.intro hR4 (And.intro hS4 (And.intro hA4 (And.intro hL4 hB4))))
  clear hR4 hS4 hA4 hL4 hB4 hx4 hXN
  go_wp2_with (fail)
  obtain ⟨hR4, hS4, hA4, hL4, hB4⟩ := HQ.out
  clear HQ q1
  -- round 4
  rw [rounds_succ]
  have x0 := (cell_of_row u4 (N + 2) 8 _ 60 (0, 0) hL4).trans (show _ = some (.pointer (some ⟨B, 4, none⟩)) from rfl)
  have x1 := (cell_of_row u4 (N + 2) 9 _ 60 (0, 0) hL4).trans (show _ = some (.int .i64 2) from rfl)
  have HQ := Lib.hid (And.intro hR4 (And.intro hS4 (And.intro hA4 (And.intro hL4 hB4))))
  clear hR4 hS4 hA4 hL4 hB4
  go_wp2_with (fail)
  clear x0 x1
  obtain ⟨hR4, hS4, hA4, hL4, hB4⟩ := HQ.out
  clear HQ
  obtain ⟨X, hX⟩ : ∃ X, u4.heap.size = X := ⟨_, rfl⟩
  have hXN : N + 2 < X := by rw [← hX]; exact blk_lt hL4
  have hx := World.alloc_heap_new u4 (.cells #[.pointer (some ⟨B, 4, none⟩), .int .i64 2] 60)
  have hR := heap_alloc' (.cells #[.pointer (some ⟨B, 4, none⟩), .int .i64 2] 60) hR4
  have hS := heap_alloc' (.cells #[.pointer (some ⟨B, 4, none⟩), .int .i64 2] 60) hS4
  have hA := heap_alloc' (.cells #[.pointer (some ⟨B, 4, none⟩), .int .i64 2] 60) hA4
  have hL := heap_alloc' (.cells #[.pointer (some ⟨B, 4, none⟩), .int .i64 2] 60) hL4
  have hB : Below B w (u4.alloc (.cells #[.pointer (some ⟨B, 4, none⟩), .int .i64 2] 60)) := by rw [← hBe] at hB4 ⊢; exact below_alloc hB4 _
  rw [hX] at hx
  (try rw [hX])
  (try simp only [hX])
  generalize u4.alloc (.cells #[.pointer (some ⟨B, 4, none⟩), .int .i64 2] 60) = v at hx hR hS hA hL hB ⊢
  clear hR4 hS4 hA4 hL4 hB4 hX
  have q0 := (cell_of_row v X 0 _ 60 (0, 0) hx).trans (show _ = some (.pointer (some ⟨B, 4, none⟩)) from rfl)
  have q1 := (cell_of_row v X 1 _ 60 (0, 0) hx).trans (show _ = some (.int .i64 2) from rfl)
  refine start_ (n := 12) (S := fun w' => w'.cell? ⟨X, 0, none⟩ = some (.pointer (some ⟨B, 4, none⟩)) ∧ w'.cell? ⟨X, 1, none⟩ = some (.int .i64 2)) (ds := [11]) #[false, false, false, false, false, false, false, false, false, false, false, false] (by kernel_rfl) rfl rfl ⟨q0, q1⟩ (fun hHeld => ?_)
  have hx' := heap_drew hx
  have hR' := heap_drew hR
  have hS' := heap_drew hS
  have hA' := heap_drew hA
  have hL' := heap_drew hL
  have hB' : Below B w v.drew := by rw [← hBe] at hB ⊢; exact below_drew hB
  clear hx hR hS hA hL hB q0 q1
  generalize v.drew = v2 at hx' hR' hS' hA' hL' hB' hHeld ⊢
  refine pure_ (i := 0) (N := some 54) (v := ?_) (a' := ?_) #[true, false, false, false, false, false, false, false, false, false, false, false] rfl rfl (by kernel_rfl) (fun _ _ _ h => h) (Or.inl ⟨by rfl, ?_⟩) ?_ ?_
  rotate_left
  · intro w'
    go_simp
    with_reducible rfl
  rotate_left
  · simp only [Act.put, List.setIfInBounds_toArray, List.set_cons_zero, List.set_cons_succ, i64_w, i32_w]
    rfl
  refine take_ (i := 1) (N := some 55) (v := ?_) (a' := ?_) #[true, true, false, false, false, false, false, false, false, false, false, false] rfl rfl (by kernel_rfl) (fun _ _ _ h => h) (Or.inl ⟨by rfl, ?_⟩) hHeld ?_ ?_
  rotate_left
  · intro w' s0
    obtain ⟨s0_, s1_⟩ := s0
    go_simp
    with_reducible rfl
  rotate_left
  · simp only [Act.put, List.setIfInBounds_toArray, List.set_cons_zero, List.set_cons_succ, i64_w, i32_w]
    rfl
  refine pure_ (i := 2) (N := some 56) (v := ?_) (a' := ?_) #[true, true, true, false, false, false, false, false, false, false, false, false] rfl rfl (by kernel_rfl) (fun _ _ _ h => h) (Or.inl ⟨by rfl, ?_⟩) ?_ ?_
  rotate_left
  · intro w'
    go_simp
    with_reducible rfl
  rotate_left
  · simp only [Act.put, List.setIfInBounds_toArray, List.set_cons_zero, List.set_cons_succ, i64_w, i32_w]
    rfl
  refine pure_ (i := 3) (N := some 57) (v := ?_) (a' := ?_) #[true, true, true, true, false, false, false, false, false, false, false, false] rfl rfl (by kernel_rfl) (fun _ _ _ h => h) (Or.inl ⟨by rfl, ?_⟩) ?_ ?_
  rotate_left
  · intro w'
    go_simp
    with_reducible rfl
  rotate_left
  · simp only [Act.put, List.setIfInBounds_toArray, List.set_cons_zero, List.set_cons_succ, i64_w, i32_w]
    rfl
  refine pure_ (i := 4) (N := some 58) (v := ?_) (a' := ?_) #[true, true, true, true, true, false, false, false, false, false, false, false] rfl rfl (by kernel_rfl) (fun _ _ _ h => h) (Or.inl ⟨by rfl, ?_⟩) ?_ ?_
  rotate_left
  · intro w'
    go_simp
    with_reducible rfl
  rotate_left
  · simp only [Act.put, List.setIfInBounds_toArray, List.set_cons_zero, List.set_cons_succ, i64_w, i32_w]
    rfl
  refine take_ (i := 5) (N := some 59) (v := ?_) (a' := ?_) #[true, true, true, true, true, true, false, false, false, false, false, false] rfl rfl (by kernel_rfl) (fun _ _ _ h => h) (Or.inl ⟨by rfl, ?_⟩) hHeld ?_ ?_
  rotate_left
  · intro w' s0
    obtain ⟨s0_, s1_⟩ := s0
    go_simp
    with_reducible rfl
  rotate_left
  · simp only [Act.put, List.setIfInBounds_toArray, List.set_cons_zero, List.set_cons_succ, i64_w, i32_w]
    rfl
  refine one_ (i := 6) (N := some 60) #[true, true, true, true, true, true, true, false, false, false, false, false] rfl rfl (by kernel_rfl) (by decide) (fun K hK => ?_)
  refine goes_ Try.func26 (by kernel_rfl) rfl #[.string s, .int .i64 12, .int .i64 2] (by rfl) rfl rfl (by (try simp only [List.map_toArray, List.map_cons, List.map_nil]); first | done | rfl) ?_
  refine (G 12 2 _).mono ?_
  rintro e y_ ⟨rfl, hb⟩
  refine ⟨_, rfl, ?_⟩
  have hR := heap_step' hR' hb
  have hS := heap_step' hS' hb
  have hA := heap_step' hA' hb
  have hL := heap_step' hL' hb
  have hx := heap_step' hx' hb
  have hB := below_stepB hBe hB' hb
  clear hb hR' hS' hA' hL' hx' hB'
  refine hK.out _ _ ⟨(blk_cell hx 0).trans rfl, (blk_cell hx 1).trans rfl⟩ (fun hHeld => ?_)
  clear hK K
  refine norm_ (a' := ?_) ?_ ?_
  rotate_left
  · show Act.put _ (some 60) _ = _
    simp only [Act.put, List.setIfInBounds_toArray, List.set_cons_zero, List.set_cons_succ, i64_w, i32_w]
    rfl
  refine pure_ (i := 7) (N := some 53) (v := ?_) (a' := ?_) #[true, true, true, true, true, true, true, true, false, false, false, false] rfl rfl (by kernel_rfl) (fun _ _ _ h => h) (Or.inl ⟨by rfl, ?_⟩) ?_ ?_
  rotate_left
  · intro w'
    go_simp
    with_reducible rfl
  rotate_left
  · simp only [Act.put, List.setIfInBounds_toArray, List.set_cons_zero, List.set_cons_succ, i64_w, i32_w]
    rfl
  refine pure_ (i := 8) (N := some 61) (v := ?_) (a' := ?_) #[true, true, true, true, true, true, true, true, true, false, false, false] rfl rfl (by kernel_rfl) (fun _ _ _ h => h) (Or.inl ⟨by rfl, ?_⟩) ?_ ?_
  rotate_left
  · intro w'
    go_simp
    with_reducible rfl
  rotate_left
  · simp only [Act.put, List.setIfInBounds_toArray, List.set_cons_zero, List.set_cons_succ, i64_w, i32_w]
    rfl
  refine pure_ (i := 9) (N := some 62) (v := ?_) (a' := ?_) #[true, true, true, true, true, true, true, true, true, true, false, false] rfl rfl (by kernel_rfl) (fun _ _ _ h => h) (Or.inl ⟨by rfl, ?_⟩) ?_ ?_
  rotate_left
  · intro w'
    go_simp
    with_reducible rfl
  rotate_left
  · simp only [Act.put, List.setIfInBounds_toArray, List.set_cons_zero, List.set_cons_succ, i64_w, i32_w]
    rfl
  refine pure_ (i := 10) (N := some 63) (v := ?_) (a' := ?_) #[true, true, true, true, true, true, true, true, true, true, true, false] rfl rfl (by kernel_rfl) (fun _ _ _ h => h) (Or.inl ⟨by rfl, ?_⟩) ?_ ?_
  rotate_left
  · intro w'
    go_simp
    with_reducible rfl
  rotate_left
  · simp only [Act.put, List.setIfInBounds_toArray, List.set_cons_zero, List.set_cons_succ, i64_w, i32_w]
    rfl
  have y0 := (cell_of_row y_ (B) 4 _ 24 (0, 0) hR).trans (show _ = some (.int .i64 0) from rfl)
  have z0 := row_free (i := 4) hR
  refine last_ (i := 11) (N := none) #[true, true, true, true, true, true, true, true, true, true, true, true] rfl rfl (by kernel_rfl) (by decide) (fun K hK => ?_)
  refine skip_ (w1 := ?_) (by rfl) rfl ?_ ?_
  rotate_left
  · go_simp
    rfl
  refine hK.out _ _ ?_
  clear hK K hHeld y0 z0
  refine done_ (by kernel_rfl) ?_
  have hR5 : (y_.setCell ⟨B, 4, none⟩ (.int .i64 (Sp.get (bl s) 12 2).1)).heap[B]? = some (.cells #[.int .i64 (Sp.get (bl s) 0 2).1, .int .i64 (Sp.get (bl s) 2 2).1, .int .u32 0, .int .u32 0, .int .i64 (Sp.get (bl s) 12 2).1, .int .i64 0, .int .i64 0, .string ⟨#[]⟩] 24 (0, 0)) := blk_put hR 4 _ rfl
  have hS5 : (y_.setCell ⟨B, 4, none⟩ (.int .i64 (Sp.get (bl s) 12 2).1)).heap[N]? = some (.cells #[.int .i64 (Sp.get (bl s) 4 4).1] 3 (0, 0)) := (Below.heap_setCell _ _ _ _ (by show N ≠ B; omega)).trans hS
  have hA5 : (y_.setCell ⟨B, 4, none⟩ (.int .i64 (Sp.get (bl s) 12 2).1)).heap[N + 1]? = some (.cells #[.int .i64 (Sp.get (bl s) 8 4).1] 3 (0, 0)) := (Below.heap_setCell _ _ _ _ (by show N + 1 ≠ B; omega)).trans hA
  have hL5 : (y_.setCell ⟨B, 4, none⟩ (.int .i64 (Sp.get (bl s) 12 2).1)).heap[N + 2]? = some (.cells #[.pointer (some ⟨B, 0, none⟩), .int .i64 2, .pointer (some ⟨B, 1, none⟩), .int .i64 2, .pointer (some ⟨N, 0, none⟩), .int .i64 4, .pointer (some ⟨N + 1, 0, none⟩), .int .i64 4, .pointer (some ⟨B, 4, none⟩), .int .i64 2, .pointer (some ⟨B, 5, none⟩), .int .i64 2] 60 (0, 0)) := (Below.heap_setCell _ _ _ _ (by show N + 2 ≠ B; omega)).trans hL
  have hx5 : (y_.setCell ⟨B, 4, none⟩ (.int .i64 (Sp.get (bl s) 12 2).1)).heap[X]? = some (.cells #[.pointer (some ⟨B, 4, none⟩), .int .i64 2] 60 (0, 0)) := (Below.heap_setCell _ _ _ _ (by show X ≠ B; omega)).trans hx
  have hB5 : Below B w (y_.setCell ⟨B, 4, none⟩ (.int .i64 (Sp.get (bl s) 12 2).1)) := hB.setCell (show B ≤ B by omega) _
  clear hR hS hA hL hB hx
  generalize (y_.setCell ⟨B, 4, none⟩ (.int .i64 (Sp.get (bl s) 12 2).1)) = u5 at hR5 hS5 hA5 hL5 hB5 hx5 ⊢
  clear y_
  have q1 := (blk_cell hx5 1).trans rfl
  have HQ := Lib.hid (And.intro hR5 (And.intro hS5 (And.intro hA5 (And.intro hL5 hB5))))
  clear hR5 hS5 hA5 hL5 hB5 hx5 hXN
  go_wp2_with (fail)
  obtain ⟨hR5, hS5, hA5, hL5, hB5⟩ := HQ.out
  clear HQ q1
  -- round 5
  rw [rounds_succ]
  have x0 := (cell_of_row u5 (N + 2) 10 _ 60 (0, 0) hL5).trans (show _ = some (.pointer (some ⟨B, 5, none⟩)) from rfl)
  have x1 := (cell_of_row u5 (N + 2) 11 _ 60 (0, 0) hL5).trans (show _ = some (.int .i64 2) from rfl)
  have HQ := Lib.hid (And.intro hR5 (And.intro hS5 (And.intro hA5 (And.intro hL5 hB5))))
  clear hR5 hS5 hA5 hL5 hB5
  go_wp2_with (fail)
  clear x0 x1
  obtain ⟨hR5, hS5, hA5, hL5, hB5⟩ := HQ.out
  clear HQ
  obtain ⟨X, hX⟩ : ∃ X, u5.heap.size = X := ⟨_, rfl⟩
  have hXN : N + 2 < X := by rw [← hX]; exact blk_lt hL5
  have hx := World.alloc_heap_new u5 (.cells #[.pointer (some ⟨B, 5, none⟩), .int .i64 2] 60)
  have hR := heap_alloc' (.cells #[.pointer (some ⟨B, 5, none⟩), .int .i64 2] 60) hR5
  have hS := heap_alloc' (.cells #[.pointer (some ⟨B, 5, none⟩), .int .i64 2] 60) hS5
  have hA := heap_alloc' (.cells #[.pointer (some ⟨B, 5, none⟩), .int .i64 2] 60) hA5
  have hL := heap_alloc' (.cells #[.pointer (some ⟨B, 5, none⟩), .int .i64 2] 60) hL5
  have hB : Below B w (u5.alloc (.cells #[.pointer (some ⟨B, 5, none⟩), .int .i64 2] 60)) := by rw [← hBe] at hB5 ⊢; exact below_alloc hB5 _
  rw [hX] at hx
  (try rw [hX])
  (try simp only [hX])
  generalize u5.alloc (.cells #[.pointer (some ⟨B, 5, none⟩), .int .i64 2] 60) = v at hx hR hS hA hL hB ⊢
  clear hR5 hS5 hA5 hL5 hB5 hX
  have q0 := (cell_of_row v X 0 _ 60 (0, 0) hx).trans (show _ = some (.pointer (some ⟨B, 5, none⟩)) from rfl)
  have q1 := (cell_of_row v X 1 _ 60 (0, 0) hx).trans (show _ = some (.int .i64 2) from rfl)
  refine start_ (n := 12) (S := fun w' => w'.cell? ⟨X, 0, none⟩ = some (.pointer (some ⟨B, 5, none⟩)) ∧ w'.cell? ⟨X, 1, none⟩ = some (.int .i64 2)) (ds := [11]) #[false, false, false, false, false, false, false, false, false, false, false, false] (by kernel_rfl) rfl rfl ⟨q0, q1⟩ (fun hHeld => ?_)
  have hx' := heap_drew hx
  have hR' := heap_drew hR
  have hS' := heap_drew hS
  have hA' := heap_drew hA
  have hL' := heap_drew hL
  have hB' : Below B w v.drew := by rw [← hBe] at hB ⊢; exact below_drew hB
  clear hx hR hS hA hL hB q0 q1
  generalize v.drew = v2 at hx' hR' hS' hA' hL' hB' hHeld ⊢
  refine pure_ (i := 0) (N := some 54) (v := ?_) (a' := ?_) #[true, false, false, false, false, false, false, false, false, false, false, false] rfl rfl (by kernel_rfl) (fun _ _ _ h => h) (Or.inl ⟨by rfl, ?_⟩) ?_ ?_
  rotate_left
  · intro w'
    go_simp
    with_reducible rfl
  rotate_left
  · simp only [Act.put, List.setIfInBounds_toArray, List.set_cons_zero, List.set_cons_succ, i64_w, i32_w]
    rfl
  refine take_ (i := 1) (N := some 55) (v := ?_) (a' := ?_) #[true, true, false, false, false, false, false, false, false, false, false, false] rfl rfl (by kernel_rfl) (fun _ _ _ h => h) (Or.inl ⟨by rfl, ?_⟩) hHeld ?_ ?_
  rotate_left
  · intro w' s0
    obtain ⟨s0_, s1_⟩ := s0
    go_simp
    with_reducible rfl
  rotate_left
  · simp only [Act.put, List.setIfInBounds_toArray, List.set_cons_zero, List.set_cons_succ, i64_w, i32_w]
    rfl
  refine pure_ (i := 2) (N := some 56) (v := ?_) (a' := ?_) #[true, true, true, false, false, false, false, false, false, false, false, false] rfl rfl (by kernel_rfl) (fun _ _ _ h => h) (Or.inl ⟨by rfl, ?_⟩) ?_ ?_
  rotate_left
  · intro w'
    go_simp
    with_reducible rfl
  rotate_left
  · simp only [Act.put, List.setIfInBounds_toArray, List.set_cons_zero, List.set_cons_succ, i64_w, i32_w]
    rfl
  refine pure_ (i := 3) (N := some 57) (v := ?_) (a' := ?_) #[true, true, true, true, false, false, false, false, false, false, false, false] rfl rfl (by kernel_rfl) (fun _ _ _ h => h) (Or.inl ⟨by rfl, ?_⟩) ?_ ?_
  rotate_left
  · intro w'
    go_simp
    with_reducible rfl
  rotate_left
  · simp only [Act.put, List.setIfInBounds_toArray, List.set_cons_zero, List.set_cons_succ, i64_w, i32_w]
    rfl
  refine pure_ (i := 4) (N := some 58) (v := ?_) (a' := ?_) #[true, true, true, true, true, false, false, false, false, false, false, false] rfl rfl (by kernel_rfl) (fun _ _ _ h => h) (Or.inl ⟨by rfl, ?_⟩) ?_ ?_
  rotate_left
  · intro w'
    go_simp
    with_reducible rfl
  rotate_left
  · simp only [Act.put, List.setIfInBounds_toArray, List.set_cons_zero, List.set_cons_succ, i64_w, i32_w]
    rfl
  refine take_ (i := 5) (N := some 59) (v := ?_) (a' := ?_) #[true, true, true, true, true, true, false, false, false, false, false, false] rfl rfl (by kernel_rfl) (fun _ _ _ h => h) (Or.inl ⟨by rfl, ?_⟩) hHeld ?_ ?_
  rotate_left
  · intro w' s0
    obtain ⟨s0_, s1_⟩ := s0
    go_simp
    with_reducible rfl
  rotate_left
  · simp only [Act.put, List.setIfInBounds_toArray, List.set_cons_zero, List.set_cons_succ, i64_w, i32_w]
    rfl
  refine one_ (i := 6) (N := some 60) #[true, true, true, true, true, true, true, false, false, false, false, false] rfl rfl (by kernel_rfl) (by decide) (fun K hK => ?_)
  refine goes_ Try.func26 (by kernel_rfl) rfl #[.string s, .int .i64 14, .int .i64 2] (by rfl) rfl rfl (by (try simp only [List.map_toArray, List.map_cons, List.map_nil]); first | done | rfl) ?_
  refine (G 14 2 _).mono ?_
  rintro e y_ ⟨rfl, hb⟩
  refine ⟨_, rfl, ?_⟩
  have hR := heap_step' hR' hb
  have hS := heap_step' hS' hb
  have hA := heap_step' hA' hb
  have hL := heap_step' hL' hb
  have hx := heap_step' hx' hb
  have hB := below_stepB hBe hB' hb
  clear hb hR' hS' hA' hL' hx' hB'
  refine hK.out _ _ ⟨(blk_cell hx 0).trans rfl, (blk_cell hx 1).trans rfl⟩ (fun hHeld => ?_)
  clear hK K
  refine norm_ (a' := ?_) ?_ ?_
  rotate_left
  · show Act.put _ (some 60) _ = _
    simp only [Act.put, List.setIfInBounds_toArray, List.set_cons_zero, List.set_cons_succ, i64_w, i32_w]
    rfl
  refine pure_ (i := 7) (N := some 53) (v := ?_) (a' := ?_) #[true, true, true, true, true, true, true, true, false, false, false, false] rfl rfl (by kernel_rfl) (fun _ _ _ h => h) (Or.inl ⟨by rfl, ?_⟩) ?_ ?_
  rotate_left
  · intro w'
    go_simp
    with_reducible rfl
  rotate_left
  · simp only [Act.put, List.setIfInBounds_toArray, List.set_cons_zero, List.set_cons_succ, i64_w, i32_w]
    rfl
  refine pure_ (i := 8) (N := some 61) (v := ?_) (a' := ?_) #[true, true, true, true, true, true, true, true, true, false, false, false] rfl rfl (by kernel_rfl) (fun _ _ _ h => h) (Or.inl ⟨by rfl, ?_⟩) ?_ ?_
  rotate_left
  · intro w'
    go_simp
    with_reducible rfl
  rotate_left
  · simp only [Act.put, List.setIfInBounds_toArray, List.set_cons_zero, List.set_cons_succ, i64_w, i32_w]
    rfl
  refine pure_ (i := 9) (N := some 62) (v := ?_) (a' := ?_) #[true, true, true, true, true, true, true, true, true, true, false, false] rfl rfl (by kernel_rfl) (fun _ _ _ h => h) (Or.inl ⟨by rfl, ?_⟩) ?_ ?_
  rotate_left
  · intro w'
    go_simp
    with_reducible rfl
  rotate_left
  · simp only [Act.put, List.setIfInBounds_toArray, List.set_cons_zero, List.set_cons_succ, i64_w, i32_w]
    rfl
  refine pure_ (i := 10) (N := some 63) (v := ?_) (a' := ?_) #[true, true, true, true, true, true, true, true, true, true, true, false] rfl rfl (by kernel_rfl) (fun _ _ _ h => h) (Or.inl ⟨by rfl, ?_⟩) ?_ ?_
  rotate_left
  · intro w'
    go_simp
    with_reducible rfl
  rotate_left
  · simp only [Act.put, List.setIfInBounds_toArray, List.set_cons_zero, List.set_cons_succ, i64_w, i32_w]
    rfl
  have y0 := (cell_of_row y_ (B) 5 _ 24 (0, 0) hR).trans (show _ = some (.int .i64 0) from rfl)
  have z0 := row_free (i := 5) hR
  refine last_ (i := 11) (N := none) #[true, true, true, true, true, true, true, true, true, true, true, true] rfl rfl (by kernel_rfl) (by decide) (fun K hK => ?_)
  refine skip_ (w1 := ?_) (by rfl) rfl ?_ ?_
  rotate_left
  · go_simp
    rfl
  refine hK.out _ _ ?_
  clear hK K hHeld y0 z0
  refine done_ (by kernel_rfl) ?_
  have hR6 : (y_.setCell ⟨B, 5, none⟩ (.int .i64 (Sp.get (bl s) 14 2).1)).heap[B]? = some (.cells #[.int .i64 (Sp.get (bl s) 0 2).1, .int .i64 (Sp.get (bl s) 2 2).1, .int .u32 0, .int .u32 0, .int .i64 (Sp.get (bl s) 12 2).1, .int .i64 (Sp.get (bl s) 14 2).1, .int .i64 0, .string ⟨#[]⟩] 24 (0, 0)) := blk_put hR 5 _ rfl
  have hS6 : (y_.setCell ⟨B, 5, none⟩ (.int .i64 (Sp.get (bl s) 14 2).1)).heap[N]? = some (.cells #[.int .i64 (Sp.get (bl s) 4 4).1] 3 (0, 0)) := (Below.heap_setCell _ _ _ _ (by show N ≠ B; omega)).trans hS
  have hA6 : (y_.setCell ⟨B, 5, none⟩ (.int .i64 (Sp.get (bl s) 14 2).1)).heap[N + 1]? = some (.cells #[.int .i64 (Sp.get (bl s) 8 4).1] 3 (0, 0)) := (Below.heap_setCell _ _ _ _ (by show N + 1 ≠ B; omega)).trans hA
  have hL6 : (y_.setCell ⟨B, 5, none⟩ (.int .i64 (Sp.get (bl s) 14 2).1)).heap[N + 2]? = some (.cells #[.pointer (some ⟨B, 0, none⟩), .int .i64 2, .pointer (some ⟨B, 1, none⟩), .int .i64 2, .pointer (some ⟨N, 0, none⟩), .int .i64 4, .pointer (some ⟨N + 1, 0, none⟩), .int .i64 4, .pointer (some ⟨B, 4, none⟩), .int .i64 2, .pointer (some ⟨B, 5, none⟩), .int .i64 2] 60 (0, 0)) := (Below.heap_setCell _ _ _ _ (by show N + 2 ≠ B; omega)).trans hL
  have hx6 : (y_.setCell ⟨B, 5, none⟩ (.int .i64 (Sp.get (bl s) 14 2).1)).heap[X]? = some (.cells #[.pointer (some ⟨B, 5, none⟩), .int .i64 2] 60 (0, 0)) := (Below.heap_setCell _ _ _ _ (by show X ≠ B; omega)).trans hx
  have hB6 : Below B w (y_.setCell ⟨B, 5, none⟩ (.int .i64 (Sp.get (bl s) 14 2).1)) := hB.setCell (show B ≤ B by omega) _
  clear hR hS hA hL hB hx
  generalize (y_.setCell ⟨B, 5, none⟩ (.int .i64 (Sp.get (bl s) 14 2).1)) = u6 at hR6 hS6 hA6 hL6 hB6 hx6 ⊢
  clear y_
  have q1 := (blk_cell hx6 1).trans rfl
  have HQ := Lib.hid (And.intro hR6 (And.intro hS6 (And.intro hA6 (And.intro hL6 hB6))))
  clear hR6 hS6 hA6 hL6 hB6 hx6 hXN
  go_wp2_with (fail)
  obtain ⟨hR6, hS6, hA6, hL6, hB6⟩ := HQ.out
  clear HQ q1
  -- behind the loop
  rw [rounds_succ]
  have HQ := Lib.hid (And.intro hR6 (And.intro hS6 (And.intro hA6 hB6)))
  clear hR6 hS6 hA6 hL6 hB6
  go_wp2_with (fail)
  obtain ⟨hR6, hS6, hA6, hB6⟩ := HQ.out
  clear HQ
  refine (G 18 2 _).mono ?_
  rintro e y_ ⟨rfl, hb⟩
  have hR := heap_step' hR6 hb
  have hS := heap_step' hS6 hb
  have hA := heap_step' hA6 hb
  have hB := below_stepB hBe hB6 hb
  clear hb hR6 hS6 hA6 hB6
  have y6 : y_.cell? ⟨B, 6, none⟩ = some (.int .i64 0) := (blk_cell hR 6).trans rfl
  have z6 := blk_frozen hR 6
  have y4 : y_.cell? ⟨B, 4, none⟩ = some (.int .i64 (Sp.get (bl s) 12 2).1) := (blk_cell hR 4).trans rfl
  have z4 := blk_frozen hR 4
  have HQ := Lib.hid (And.intro hR (And.intro hS (And.intro hA hB)))
  clear hR hS hA hB
  go_wp2_with (fail)
  obtain ⟨hR, hS, hA, hB⟩ := HQ.out
  clear HQ y6 z6 y4 z4
  have hR7 : ((y_.setCell ⟨B, 6, none⟩ (.int .i64 (Sp.get (bl s) 18 2).1)).setCell ⟨B, 4, none⟩ (.int .i64 (Go.bits .and .i64 (Sp.get (bl s) 12 2).1 4095))).heap[B]? = some (.cells #[.int .i64 (Sp.get (bl s) 0 2).1, .int .i64 (Sp.get (bl s) 2 2).1, .int .u32 0, .int .u32 0, .int .i64 (Go.bits .and .i64 (Sp.get (bl s) 12 2).1 4095), .int .i64 (Sp.get (bl s) 14 2).1, .int .i64 (Sp.get (bl s) 18 2).1, .string ⟨#[]⟩] 24 (0, 0)) := blk_put (blk_put hR 6 _ rfl) 4 _ rfl
  have hS7 : ((y_.setCell ⟨B, 6, none⟩ (.int .i64 (Sp.get (bl s) 18 2).1)).setCell ⟨B, 4, none⟩ (.int .i64 (Go.bits .and .i64 (Sp.get (bl s) 12 2).1 4095))).heap[N]? = some (.cells #[.int .i64 (Sp.get (bl s) 4 4).1] 3 (0, 0)) := blk_far (blk_far hS (by show N ≠ B; omega) _) (by show N ≠ B; omega) _
  have hA7 : ((y_.setCell ⟨B, 6, none⟩ (.int .i64 (Sp.get (bl s) 18 2).1)).setCell ⟨B, 4, none⟩ (.int .i64 (Go.bits .and .i64 (Sp.get (bl s) 12 2).1 4095))).heap[N + 1]? = some (.cells #[.int .i64 (Sp.get (bl s) 8 4).1] 3 (0, 0)) := blk_far (blk_far hA (by show N + 1 ≠ B; omega) _) (by show N + 1 ≠ B; omega) _
  have hB7 : Below B w ((y_.setCell ⟨B, 6, none⟩ (.int .i64 (Sp.get (bl s) 18 2).1)).setCell ⟨B, 4, none⟩ (.int .i64 (Go.bits .and .i64 (Sp.get (bl s) 12 2).1 4095))) := (hB.setCell (Nat.le_refl _) _).setCell (Nat.le_refl _) _
  clear hR hS hA hB
  generalize ((y_.setCell ⟨B, 6, none⟩ (.int .i64 (Sp.get (bl s) 18 2).1)).setCell ⟨B, 4, none⟩ (.int .i64 (Go.bits .and .i64 (Sp.get (bl s) 12 2).1 4095))) = u7 at hR7 hS7 hA7 hB7 ⊢
  clear y_
  refine start_ (n := 13) (S := fun w' => w'.cell? ⟨N, 0, none⟩ = some (.int .i64 (Sp.get (bl s) 4 4).1) ∧ w'.cell? ⟨N + 1, 0, none⟩ = some (.int .i64 (Sp.get (bl s) 8 4).1)) (ds := [8, 10, 12]) #[false, false, false, false, false, false, false, false, false, false, false, false, false] (by kernel_rfl) rfl rfl ⟨(blk_cell hS7 0).trans rfl, (blk_cell hA7 0).trans rfl⟩ (fun hHeld => ?_)
  have hR := heap_drew hR7
  have hB : Below B w u7.drew := by rw [← hBe] at hB7 ⊢; exact below_drew hB7
  clear hR7 hS7 hA7 hB7
  generalize u7.drew = v2 at hR hB hHeld ⊢
  clear u7
  have y2 : v2.cell? ⟨B, 2, none⟩ = some (.int .u32 0) := (blk_cell hR 2).trans rfl
  have z2 := blk_frozen hR 2
  have y3 : v2.cell? ⟨B, 3, none⟩ = some (.int .u32 0) := (blk_cell hR 3).trans rfl
  have z3 := blk_frozen hR 3
  have y7 : v2.cell? ⟨B, 7, none⟩ = some (.string ⟨#[]⟩) := (blk_cell hR 7).trans rfl
  have z7 := blk_frozen hR 7
  have hle : 20 ≤ sz.toNat := by omega
  refine take_ (i := 0) (N := some 81) (v := ?_) (a' := ?_) #[true, false, false, false, false, false, false, false, false, false, false, false, false] rfl rfl (by kernel_rfl) (fun _ _ _ h => h) (Or.inl ⟨by rfl, ?_⟩) hHeld ?_ ?_
  rotate_left
  · intro w' s0
    obtain ⟨s0_, s1_⟩ := s0
    go_simp
    with_reducible rfl
  rotate_left
  · simp only [Act.put, List.setIfInBounds_toArray, List.set_cons_zero, List.set_cons_succ, i64_w, i32_w]
    rfl
  refine pure_ (i := 1) (N := some 82) (v := ?_) (a' := ?_) #[true, true, false, false, false, false, false, false, false, false, false, false, false] rfl rfl (by kernel_rfl) (fun _ _ _ h => h) (Or.inl ⟨by rfl, ?_⟩) ?_ ?_
  rotate_left
  · intro w'
    go_simp
    with_reducible rfl
  rotate_left
  · simp only [Act.put, List.setIfInBounds_toArray, List.set_cons_zero, List.set_cons_succ, i64_w, i32_w]
    rfl
  refine take_ (i := 2) (N := some 83) (v := ?_) (a' := ?_) #[true, true, true, false, false, false, false, false, false, false, false, false, false] rfl rfl (by kernel_rfl) (fun _ _ _ h => h) (Or.inl ⟨by rfl, ?_⟩) hHeld ?_ ?_
  rotate_left
  · intro w' s0
    obtain ⟨s0_, s1_⟩ := s0
    go_simp
    with_reducible rfl
  rotate_left
  · simp only [Act.put, List.setIfInBounds_toArray, List.set_cons_zero, List.set_cons_succ, i64_w, i32_w]
    rfl
  refine pure_ (i := 3) (N := some 84) (v := ?_) (a' := ?_) #[true, true, true, true, false, false, false, false, false, false, false, false, false] rfl rfl (by kernel_rfl) (fun _ _ _ h => h) (Or.inl ⟨by rfl, ?_⟩) ?_ ?_
  rotate_left
  · intro w'
    go_simp
    with_reducible rfl
  rotate_left
  · simp only [Act.put, List.setIfInBounds_toArray, List.set_cons_zero, List.set_cons_succ, i64_w, i32_w]
    rfl
  refine pure_ (i := 4) (N := some 85) (v := ?_) (a' := ?_) #[true, true, true, true, true, false, false, false, false, false, false, false, false] rfl rfl (by kernel_rfl) (fun _ _ _ h => h) (Or.inl ⟨by rfl, ?_⟩) ?_ ?_
  rotate_left
  · intro w'
    go_simp
    with_reducible rfl
  rotate_left
  · simp only [Act.put, List.setIfInBounds_toArray, List.set_cons_zero, List.set_cons_succ, i64_w, i32_w]
    rfl
  refine pure_ (i := 5) (N := some 86) (v := ?_) (a' := ?_) #[true, true, true, true, true, true, false, false, false, false, false, false, false] rfl rfl (by kernel_rfl) (fun _ _ _ h => h) (Or.inl ⟨by rfl, ?_⟩) ?_ ?_
  rotate_left
  · intro w'
    go_simp
    with_reducible rfl
  rotate_left
  · simp only [Act.put, List.setIfInBounds_toArray, List.set_cons_zero, List.set_cons_succ, i64_w, i32_w]
    rfl
  refine pure_ (i := 6) (N := some 87) (v := ?_) (a' := ?_) #[true, true, true, true, true, true, true, false, false, false, false, false, false] rfl rfl (by kernel_rfl) (fun _ _ _ h => h) (Or.inl ⟨by rfl, ?_⟩) ?_ ?_
  rotate_left
  · intro w'
    go_simp
    with_reducible rfl
  rotate_left
  · simp only [Act.put, List.setIfInBounds_toArray, List.set_cons_zero, List.set_cons_succ, i64_w, i32_w]
    rfl
  refine pure_ (i := 7) (N := some 88) (v := ?_) (a' := ?_) #[true, true, true, true, true, true, true, true, false, false, false, false, false] rfl rfl (by kernel_rfl) (fun _ _ _ h => h) (Or.inl ⟨by rfl, ?_⟩) ?_ ?_
  rotate_left
  · intro w'
    go_simp
    with_reducible rfl
  rotate_left
  · simp only [Act.put, List.setIfInBounds_toArray, List.set_cons_zero, List.set_cons_succ, i64_w, i32_w]
    rfl
  refine last_ (i := 8) (N := none) #[true, true, true, true, true, true, true, true, true, false, false, false, false] rfl rfl (by kernel_rfl) (by decide) (fun K hK => ?_)
  refine skip_ (w1 := ?_) (by rfl) rfl ?_ ?_
  rotate_left
  · go_simp
    rfl
  refine hK.out _ _ ?_
  clear hK K
  refine pure_ (i := 9) (N := some 89) (v := ?_) (a' := ?_) #[true, true, true, true, true, true, true, true, true, true, false, false, false] rfl rfl (by kernel_rfl) (fun _ _ _ h => h) (Or.inl ⟨by rfl, ?_⟩) ?_ ?_
  rotate_left
  · intro w'
    go_simp
    with_reducible rfl
  rotate_left
  · simp only [Act.put, List.setIfInBounds_toArray, List.set_cons_zero, List.set_cons_succ, i64_w, i32_w]
    rfl
  refine last_ (i := 10) (N := none) #[true, true, true, true, true, true, true, true, true, true, true, false, false] rfl rfl (by kernel_rfl) (by decide) (fun K hK => ?_)
  refine skip_ (w1 := ?_) (by rfl) rfl ?_ ?_
  rotate_left
  · go_simp
    rfl
  refine hK.out _ _ ?_
  clear hK K
  refine pure_ (i := 11) (N := some 90) (v := ?_) (a' := ?_) #[true, true, true, true, true, true, true, true, true, true, true, true, false] rfl rfl (by kernel_rfl) (fun _ _ _ h => h) (Or.inl ⟨by rfl, ?_⟩) ?_ ?_
  rotate_left
  · intro w'
    go_simp
    with_reducible rfl
  rotate_left
  · simp only [Act.put, List.setIfInBounds_toArray, List.set_cons_zero, List.set_cons_succ, i64_w, i32_w]
    rfl
  refine last_ (i := 12) (N := none) #[true, true, true, true, true, true, true, true, true, true, true, true, true] rfl rfl (by kernel_rfl) (by decide) (fun K hK => ?_)
  refine skip_ (w1 := ?_) (by rfl) rfl ?_ ?_
  rotate_left
  · go_simp
    rfl
  refine hK.out _ _ ?_
  clear hK K
  refine done_ (by kernel_rfl) ?_
  clear hHeld y2 z2 y3 z3 y7 z7
  have hR8 : (((v2.setCell ⟨B, 2, none⟩ (.int .u32 (IntKind.u32.wrap (Sp.get (bl s) 4 4).1))).setCell ⟨B, 3, none⟩ (.int .u32 (IntKind.u32.wrap (Sp.get (bl s) 8 4).1))).setCell ⟨B, 7, none⟩ (.string (s.extract 20 sz.toNat))).heap[B]? = some (.cells #[.int .i64 (Sp.get (bl s) 0 2).1, .int .i64 (Sp.get (bl s) 2 2).1, .int .u32 (IntKind.u32.wrap (Sp.get (bl s) 4 4).1), .int .u32 (IntKind.u32.wrap (Sp.get (bl s) 8 4).1), .int .i64 (Go.bits .and .i64 (Sp.get (bl s) 12 2).1 4095), .int .i64 (Sp.get (bl s) 14 2).1, .int .i64 (Sp.get (bl s) 18 2).1, .string (s.extract 20 sz.toNat)] 24 (0, 0)) := blk_put (blk_put (blk_put hR 2 _ rfl) 3 _ rfl) 7 _ rfl
  have hB8 : Below B w (((v2.setCell ⟨B, 2, none⟩ (.int .u32 (IntKind.u32.wrap (Sp.get (bl s) 4 4).1))).setCell ⟨B, 3, none⟩ (.int .u32 (IntKind.u32.wrap (Sp.get (bl s) 8 4).1))).setCell ⟨B, 7, none⟩ (.string (s.extract 20 sz.toNat))) := ((hB.setCell (Nat.le_refl _) _).setCell (Nat.le_refl _) _).setCell (Nat.le_refl _) _
  clear hR hB
  generalize (((v2.setCell ⟨B, 2, none⟩ (.int .u32 (IntKind.u32.wrap (Sp.get (bl s) 4 4).1))).setCell ⟨B, 3, none⟩ (.int .u32 (IntKind.u32.wrap (Sp.get (bl s) 8 4).1))).setCell ⟨B, 7, none⟩ (.string (s.extract 20 sz.toNat))) = u8 at hR8 hB8 ⊢
  clear v2
  go_wp2_with (fail)
  have hz0 : 0 ≤ sz := by omega
  refine start_ (n := 7) (S := fun w' => w'.cell? ⟨B, 0, none⟩ = some (.int .i64 (Sp.get (bl s) 0 2).1) ∧ w'.cell? ⟨B, 1, none⟩ = some (.int .i64 (Sp.get (bl s) 2 2).1) ∧ w'.cell? ⟨B, 2, none⟩ = some (.int .u32 (IntKind.u32.wrap (Sp.get (bl s) 4 4).1)) ∧ w'.cell? ⟨B, 3, none⟩ = some (.int .u32 (IntKind.u32.wrap (Sp.get (bl s) 8 4).1)) ∧ w'.cell? ⟨B, 4, none⟩ = some (.int .i64 (Go.bits .and .i64 (Sp.get (bl s) 12 2).1 4095)) ∧ w'.cell? ⟨B, 5, none⟩ = some (.int .i64 (Sp.get (bl s) 14 2).1) ∧ w'.cell? ⟨B, 6, none⟩ = some (.int .i64 (Sp.get (bl s) 18 2).1) ∧ w'.cell? ⟨B, 7, none⟩ = some (.string (s.extract 20 sz.toNat))) (ds := [4]) #[false, false, false, false, false, false, false] (by kernel_rfl) rfl rfl ⟨(blk_cell hR8 0).trans rfl, (blk_cell hR8 1).trans rfl, (blk_cell hR8 2).trans rfl, (blk_cell hR8 3).trans rfl, (blk_cell hR8 4).trans rfl, (blk_cell hR8 5).trans rfl, (blk_cell hR8 6).trans rfl, (blk_cell hR8 7).trans rfl⟩ (fun hHeld => ?_)
  have hR := heap_drew hR8
  have hB : Below B w u8.drew := by rw [← hBe] at hB8 ⊢; exact below_drew hB8
  clear hR8 hB8
  generalize u8.drew = v2 at hR hB hHeld ⊢
  clear u8
  have y0 : v2.cell? ⟨B, 0, none⟩ = some (.int .i64 (Sp.get (bl s) 0 2).1) := (blk_cell hR 0).trans rfl
  have y1 : v2.cell? ⟨B, 1, none⟩ = some (.int .i64 (Sp.get (bl s) 2 2).1) := (blk_cell hR 1).trans rfl
  have y2 : v2.cell? ⟨B, 2, none⟩ = some (.int .u32 (IntKind.u32.wrap (Sp.get (bl s) 4 4).1)) := (blk_cell hR 2).trans rfl
  have y3 : v2.cell? ⟨B, 3, none⟩ = some (.int .u32 (IntKind.u32.wrap (Sp.get (bl s) 8 4).1)) := (blk_cell hR 3).trans rfl
  have y4 : v2.cell? ⟨B, 4, none⟩ = some (.int .i64 (Go.bits .and .i64 (Sp.get (bl s) 12 2).1 4095)) := (blk_cell hR 4).trans rfl
  have y5 : v2.cell? ⟨B, 5, none⟩ = some (.int .i64 (Sp.get (bl s) 14 2).1) := (blk_cell hR 5).trans rfl
  have y6 : v2.cell? ⟨B, 6, none⟩ = some (.int .i64 (Sp.get (bl s) 18 2).1) := (blk_cell hR 6).trans rfl
  have y7 : v2.cell? ⟨B, 7, none⟩ = some (.string (s.extract 20 sz.toNat)) := (blk_cell hR 7).trans rfl
  have z0 := blk_frozen hR 0
  have z1 := blk_frozen hR 1
  have z2 := blk_frozen hR 2
  have z3 := blk_frozen hR 3
  have z4 := blk_frozen hR 4
  have z5 := blk_frozen hR 5
  have z6 := blk_frozen hR 6
  have z7 := blk_frozen hR 7
  refine take_ (i := 0) (N := some 91) (v := ?_) (a' := ?_) #[true, false, false, false, false, false, false] rfl rfl (by kernel_rfl) (fun _ _ _ h => h) (Or.inl ⟨by rfl, ?_⟩) hHeld ?_ ?_
  rotate_left
  · intro w' s0
    obtain ⟨s0_, s1_, s2_, s3_, s4_, s5_, s6_, s7_⟩ := s0
    go_simp
    with_reducible rfl
  rotate_left
  · simp only [Act.put, List.setIfInBounds_toArray, List.set_cons_zero, List.set_cons_succ, i64_w, i32_w]
    rfl
  refine pure_ (i := 1) (N := some 92) (v := ?_) (a' := ?_) #[true, true, false, false, false, false, false] rfl rfl (by kernel_rfl) (fun _ _ _ h => h) (Or.inl ⟨by rfl, ?_⟩) ?_ ?_
  rotate_left
  · intro w'
    go_simp
    with_reducible rfl
  rotate_left
  · simp only [Act.put, List.setIfInBounds_toArray, List.set_cons_zero, List.set_cons_succ, i64_w, i32_w]
    rfl
  refine pure_ (i := 2) (N := some 93) (v := ?_) (a' := ?_) #[true, true, true, false, false, false, false] rfl rfl (by kernel_rfl) (fun _ _ _ h => h) (Or.inl ⟨by rfl, ?_⟩) ?_ ?_
  rotate_left
  · intro w'
    go_simp
    with_reducible rfl
  rotate_left
  · simp only [Act.put, List.setIfInBounds_toArray, List.set_cons_zero, List.set_cons_succ, i64_w, i32_w]
    rfl
  refine pure_ (i := 3) (N := some 94) (v := ?_) (a' := ?_) #[true, true, true, true, false, false, false] rfl rfl (by kernel_rfl) (fun _ _ _ h => h) (Or.inl ⟨by rfl, ?_⟩) ?_ ?_
  rotate_left
  · intro w'
    go_simp
    with_reducible rfl
  rotate_left
  · simp only [Act.put, List.setIfInBounds_toArray, List.set_cons_zero, List.set_cons_succ, i64_w, i32_w]
    rfl
  refine last_ (i := 4) (N := none) #[true, true, true, true, true, false, false] rfl rfl (by kernel_rfl) (by decide) (fun K hK => ?_)
  refine skip_ (w1 := ?_) (by rfl) rfl ?_ ?_
  rotate_left
  · go_simp
    rfl
  refine hK.out _ _ ?_
  clear hK K
  refine pure_ (i := 5) (N := some 3) (v := ?_) (a' := ?_) #[true, true, true, true, true, true, false] rfl rfl (by kernel_rfl) (fun _ _ _ h => h) (Or.inl ⟨by rfl, ?_⟩) ?_ ?_
  rotate_left
  · intro w'
    go_simp
    with_reducible rfl
  rotate_left
  · simp only [Act.put, List.setIfInBounds_toArray, List.set_cons_zero, List.set_cons_succ, i64_w, i32_w]
    rfl
  refine pure_ (i := 6) (N := some 4) (v := ?_) (a' := ?_) #[true, true, true, true, true, true, true] rfl rfl (by kernel_rfl) (fun _ _ _ h => h) (Or.inl ⟨by rfl, ?_⟩) ?_ ?_
  rotate_left
  · intro w'
    go_simp
    with_reducible rfl
  rotate_left
  · simp only [Act.put, List.setIfInBounds_toArray, List.set_cons_zero, List.set_cons_succ, i64_w, i32_w]
    rfl
  refine done_ (by kernel_rfl) ?_
  go_wp2_with (fail)
  refine bodyPost_ret (results_ctt rfl _ _ B 24 #[.int .i64 (Sp.get (bl s) 0 2).1, .int .i64 (Sp.get (bl s) 2 2).1, .int .u32 (IntKind.u32.wrap (Sp.get (bl s) 4 4).1), .int .u32 (IntKind.u32.wrap (Sp.get (bl s) 8 4).1), .int .i64 (Go.bits .and .i64 (Sp.get (bl s) 12 2).1 4095), .int .i64 (Sp.get (bl s) 14 2).1, .int .i64 (Sp.get (bl s) 18 2).1, .string (s.extract 20 sz.toNat)] (0, 0) _ rfl ?_ Try.underlying24 rfl (by kernel_rfl)) rfl ?_
  · exact blk_put (blk_put (blk_put (blk_put (blk_put (blk_put (blk_put (blk_put (hR) 0 _ rfl) 1 _ rfl) 2 _ rfl) 3 _ rfl) 4 _ rfl) 5 _ rfl) 6 _ rfl) 7 _ rfl
  · refine ⟨rfl, ?_⟩
    rw [hBe]
    exact (Below.setCell (Below.setCell (Below.setCell (Below.setCell (Below.setCell (Below.setCell (Below.setCell (Below.setCell hB (Nat.le_refl B) _) (Nat.le_refl B) _) (Nat.le_refl B) _) (Nat.le_refl B) _) (Nat.le_refl B) _) (Nat.le_refl B) _) (Nat.le_refl B) _) (Nat.le_refl B) _)
theorem u32_small {n : Int} (h : 0 ≤ n ∧ n < 4294967296) : IntKind.u32.wrap n = n := by rw [IntKind.wrap_u32]; omega
theorem get_small (s : List UInt8) (a b : Int) : 0 ≤ (Sp.get s a b).1 ∧ (Sp.get s a b).1 < 4294967296 := by
  unfold Sp.get
  split
  case isFalse => exact ⟨by decide, by decide⟩
  case isTrue h =>
    have hf := Sp.has_iff.1 h
    exact Sp.beNum_small _ (by rw [List.length_take]; omega)
theorem and_flags {n : Int} (h : 0 ≤ n ∧ n < 4294967296) : Go.bits .and .i64 n 4095 = n % 4096 :=
  bits_mask .i64 63 (by decide) (fun n a b => by rw [IntKind.wrap_i64]; omega) 12 (by decide) n h.1 (by omega)
theorem tcp_size {s : ByteArray} (h : 12 < (bl s).length) : bt s 12 = ((((bl s)[12]'h).toNat : Nat) : Int) := bt_bln h
theorem tcp_parse_any (s : ByteArray) (hs : s.size ≤ 140737488355328) (w : World) : Calls Try.prog 20 #[.string s] w fun e w' => e = .returned (.tuple #[.agg #[.int .i64 (Sp.tcpParse (bl s)).sp, .int .i64 (Sp.tcpParse (bl s)).dp, .int .u32 (Sp.tcpParse (bl s)).seq, .int .u32 (Sp.tcpParse (bl s)).ack, .int .i64 (Sp.tcpParse (bl s)).flags, .int .i64 (Sp.tcpParse (bl s)).win, .int .i64 (Sp.tcpParse (bl s)).urg, .string (lb (Sp.tcpParse (bl s)).opts)], .string (lb (Sp.tcpParse (bl s)).body), .int .i64 (Sp.tcpParse (bl s)).e]) ∧ Below w.heap.size w w' := by
  have hl := bl_length s
  have el : lb [] = ⟨#[]⟩ := rfl
  by_cases h1 : s.size < 20
  · have h := tcp_parse_short s w h1
    have e : Sp.tcpParse (bl s) = Sp.tcpNone 2 := by unfold Sp.tcpParse; rw [dif_pos (by omega)]
    rw [e]; exact h
  · have h12 : 12 < (bl s).length := by omega
    have hx := ((bl s)[12]'h12).toNat_lt
    have hsz : wrap64 (wrap64 (bt s 12 / 16) * 4) = (Sp.tcpSize (bl s) : Int) := by
      unfold Sp.tcpSize
      rw [dif_pos h12, tcp_size h12, wrap_id (n := ((((bl s)[12]'h12).toNat : Nat) : Int) / 16) (by omega) (by omega), wrap_id (by omega) (by omega)]
      omega
    by_cases h2 : Sp.tcpSize (bl s) < 20 ∨ Sp.tcpSize (bl s) > s.size
    · have h := tcp_parse_header s w h1 _ hsz (by omega)
      have e : Sp.tcpParse (bl s) = Sp.tcpNone 4 := by unfold Sp.tcpParse; rw [dif_neg (by omega), if_pos (by omega)]
      rw [e]; exact h
    · have hex : bl (s.extract 20 ((Sp.tcpSize (bl s) : Int)).toNat) = ((bl s).take (Sp.tcpSize (bl s))).drop 20 := by rw [Int.toNat_natCast, bl_extract]
      have hex2 : s.extract 20 ((Sp.tcpSize (bl s) : Int)).toNat = lb (((bl s).take (Sp.tcpSize (bl s))).drop 20) := by rw [← hex, Sp.lb_bl]
      by_cases h3 : Sp.optsOk (((bl s).take (Sp.tcpSize (bl s))).drop 20) = true
      · have h := tcp_parse_long s w hs h1 _ hsz (by omega) (by omega) (by rw [hex]; exact h3)
        have e : Sp.tcpParse (bl s) = ⟨(Sp.get (bl s) 0 2).1, (Sp.get (bl s) 2 2).1, (Sp.get (bl s) 4 4).1, (Sp.get (bl s) 8 4).1, (Sp.get (bl s) 12 2).1 % 4096, (Sp.get (bl s) 14 2).1, (Sp.get (bl s) 18 2).1, ((bl s).take (Sp.tcpSize (bl s))).drop 20, (bl s).drop (Sp.tcpSize (bl s)), 0⟩ := by
          unfold Sp.tcpParse; rw [dif_neg (by omega), if_neg (by omega), if_pos h3]
        have hb : s.extract ((Sp.tcpSize (bl s) : Int)).toNat s.size = lb ((bl s).drop (Sp.tcpSize (bl s))) := Sp.bl_inj (by rw [bl_extract, bl_lb, Int.toNat_natCast, ← hl, List.take_length])
        rw [u32_small (get_small _ _ _), u32_small (get_small _ _ _), and_flags (get_small _ _ _), hex2, hb] at h
        rw [e]; exact h
      · have h := tcp_parse_opts s w hs h1 _ hsz (by omega) (by omega) (by rw [hex]; exact Sp.bool_no h3)
        have e : Sp.tcpParse (bl s) = Sp.tcpNone 6 := by unfold Sp.tcpParse; rw [dif_neg (by omega), if_neg (by omega), if_neg h3]
        rw [e]; exact h
def tcp_Parse.f (a0 : ByteArray) : Option (Int × Int × Int × Int × Int × Int × Int × ByteArray × ByteArray × Int) := if a0.size ≤ 140737488355328 then some ((Sp.tcpParse (bl a0)).sp, (Sp.tcpParse (bl a0)).dp, (Sp.tcpParse (bl a0)).seq, (Sp.tcpParse (bl a0)).ack, (Sp.tcpParse (bl a0)).flags, (Sp.tcpParse (bl a0)).win, (Sp.tcpParse (bl a0)).urg, lb (Sp.tcpParse (bl a0)).opts, lb (Sp.tcpParse (bl a0)).body, (Sp.tcpParse (bl a0)).e) else none
theorem tcp_Parse_eq {a0 : ByteArray} (h : a0.size ≤ 140737488355328) : tcp_Parse.f a0 = some ((Sp.tcpParse (bl a0)).sp, (Sp.tcpParse (bl a0)).dp, (Sp.tcpParse (bl a0)).seq, (Sp.tcpParse (bl a0)).ack, (Sp.tcpParse (bl a0)).flags, (Sp.tcpParse (bl a0)).win, (Sp.tcpParse (bl a0)).urg, lb (Sp.tcpParse (bl a0)).opts, lb (Sp.tcpParse (bl a0)).body, (Sp.tcpParse (bl a0)).e) := by unfold tcp_Parse.f; exact if_pos h
theorem tcp_Parse.calls (a0 : ByteArray) (r1 : Int) (r2 : Int) (r3 : Int) (r4 : Int) (r5 : Int) (r6 : Int) (r7 : Int) (r8 : ByteArray) (r9 : ByteArray) (r10 : Int) (w : World) (h : tcp_Parse.f a0 = some (r1, r2, r3, r4, r5, r6, r7, r8, r9, r10)) :
    Calls Try.prog 20 #[.string a0] w fun e w' => e = .returned (.tuple #[.agg #[.int .i64 r1, .int .i64 r2, .int .u32 r3, .int .u32 r4, .int .i64 r5, .int .i64 r6, .int .i64 r7, .string r8], .string r9, .int .i64 r10]) ∧ Below w.heap.size w w' := by
  unfold tcp_Parse.f at h
  split at h
  case isFalse => cases h
  case isTrue hs =>
    have h := Option.some.inj h
    simp only [Prod.mk.injEq] at h
    obtain ⟨rfl, rfl, rfl, rfl, rfl, rfl, rfl, rfl, rfl, rfl⟩ := h
    exact tcp_parse_any a0 hs w
end Go.Proofs.Ytlhpfoibohiggaa.Pr
