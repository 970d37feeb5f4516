-- Written by a program of the session (wip/tools) out of the translation, over the kit's print; with pieces of the session's own.
import Derived.Test.YtlhpfoibohiggaaPr0
import Derived.Test.YtlhpfoibohiggaaPr4
import Derived.Test.YtlhpfoibohiggaaPr6
import Derived.Test.YtlhpfoibohiggaaPr8
namespace Go.Proofs.Ytlhpfoibohiggaa.Pr
open Go.RowKit Go.Proofs.YtlhpfoibohiggaaW.PrintWords Go.Proofs.YtlhpfoibohiggaaW.PrintLast Go.Proofs.YtlhpfoibohiggaaW.PrintMore
attribute [local go_sem] max2_int min2_int max_two min_two max_three min_three max_four min_four   -- for this text's walks alone
set_option linter.unusedVariables false
set_option linter.unusedSimpArgs false
open Go.Proofs.Ytlhpfoibohiggaa.Sp
/-! ### weighbridgeref05_word: function 25 -/
def weighbridgeref05_word.f (a0 : Int) : Option (Bool) := if a0 ≥ 0 then (some (decide (a0 ≤ 65535))) else (some false)
set_option maxHeartbeats 8000000 in
set_option maxRecDepth 100000 in
theorem weighbridgeref05_word.calls (a0 : Int) (r : Bool) (w : World) (h : weighbridgeref05_word.f a0 = some r) :
    Calls Try.prog 25 #[.int .i64 a0] w fun e w' => e = .returned (.bool r) ∧ Drawn0 w w' := by
  have H : (if a0 ≥ 0 then (some (decide (a0 ≤ 65535))) else (some false)) = some r := h
  clear h
  by_cases c2 : a0 ≥ 0
  · rw [if_pos c2] at H
    have c2b0 : decide (0 ≤ a0) = true := decide_eq_true c2
    clear c2
    obtain rfl := Option.some.inj H
    go_enter Try.func25, Try.ntmps25
    go_wp2
    go_ret
    exact ⟨by first | rfl | (simp; done) | (simp [*]; done), by repeat (first | exact Drawn0.refl _ | apply Drawn0.step)⟩
  · rw [if_neg c2] at H
    have c2b0 : decide (0 ≤ a0) = false := decide_eq_false c2
    clear c2
    obtain rfl := Option.some.inj H
    go_enter Try.func25, Try.ntmps25
    go_wp2
    go_ret
    exact ⟨by first | rfl | (simp; done) | (simp [*]; done), by repeat (first | exact Drawn0.refl _ | apply Drawn0.step)⟩

/-! ### weighbridgeref05_Right_p: function 15 -/
def weighbridgeref05_Right_p.f (a0_0 : Int) (a0_1 : Int) (a0_2 : Int) (a0_3 : Int) (a0_4 : Int) (a0_5 : Int) (a0_6 : Int) (a0_7 : ByteArray) : Option (Bool) := (weighbridgeref04_OptsRight.f a0_7).bind fun t139 => ((weighbridgeref05_word.f a0_0).bind fun t140 => (if t140 = true then ((weighbridgeref05_word.f a0_1).bind fun t141 => (if t141 = true then ((weighbridgeref05_word.f a0_5).bind fun t142 => (if t142 = true then ((weighbridgeref05_word.f a0_6).bind fun t143 => (if t143 = true then (if a0_4 ≥ 0 then (if a0_4 ≤ 4095 then (if (a0_7.size : Int) ≤ 40 then (if ((a0_7.size : Int) % 4) = 0 then (some t139) else (some false)) else (some false)) else (some false)) else (some false)) else (some false))) else (some false))) else (some false))) else (some false)))
set_option maxHeartbeats 8000000 in
set_option maxRecDepth 100000 in
theorem weighbridgeref05_Right_p.calls (a0_0 : Int) (a0_1 : Int) (a0_2 : Int) (a0_3 : Int) (a0_4 : Int) (a0_5 : Int) (a0_6 : Int) (a0_7 : ByteArray) (r : Bool) (w : World) (h : weighbridgeref05_Right_p.f a0_0 a0_1 a0_2 a0_3 a0_4 a0_5 a0_6 a0_7 = some r) :
    Calls Try.prog 15 #[.agg #[.int .i64 a0_0, .int .i64 a0_1, .int .u32 a0_2, .int .u32 a0_3, .int .i64 a0_4, .int .i64 a0_5, .int .i64 a0_6, .string a0_7]] w fun e w' => e = .returned (.bool r) ∧ Below w.heap.size w w' := by
  have hu31 := Try.underlying31
  have HB := Aside0.mk (Below.refl w.heap.size w)
  have H : ((weighbridgeref04_OptsRight.f a0_7).bind fun t139 => ((weighbridgeref05_word.f a0_0).bind fun t140 => (if t140 = true then ((weighbridgeref05_word.f a0_1).bind fun t141 => (if t141 = true then ((weighbridgeref05_word.f a0_5).bind fun t142 => (if t142 = true then ((weighbridgeref05_word.f a0_6).bind fun t143 => (if t143 = true then (if a0_4 ≥ 0 then (if a0_4 ≤ 4095 then (if (a0_7.size : Int) ≤ 40 then (if ((a0_7.size : Int) % 4) = 0 then (some t139) else (some false)) else (some false)) else (some false)) else (some false)) else (some false))) else (some false))) else (some false))) else (some false)))) = some r := h
  clear h
  replace H := Option.bind_eq_some_iff.mp H
  obtain ⟨t139, A20, H⟩ := H
  replace H : ((weighbridgeref05_word.f a0_0).bind fun t140 => (if t140 = true then ((weighbridgeref05_word.f a0_1).bind fun t141 => (if t141 = true then ((weighbridgeref05_word.f a0_5).bind fun t142 => (if t142 = true then ((weighbridgeref05_word.f a0_6).bind fun t143 => (if t143 = true then (if a0_4 ≥ 0 then (if a0_4 ≤ 4095 then (if (a0_7.size : Int) ≤ 40 then (if ((a0_7.size : Int) % 4) = 0 then (some t139) else (some false)) else (some false)) else (some false)) else (some false)) else (some false))) else (some false))) else (some false))) else (some false))) = some r := H
  have A2 := Aside0.mk A20
  clear A20
  replace H := Option.bind_eq_some_iff.mp H
  obtain ⟨t140, A30, H⟩ := H
  replace H : (if t140 = true then ((weighbridgeref05_word.f a0_1).bind fun t141 => (if t141 = true then ((weighbridgeref05_word.f a0_5).bind fun t142 => (if t142 = true then ((weighbridgeref05_word.f a0_6).bind fun t143 => (if t143 = true then (if a0_4 ≥ 0 then (if a0_4 ≤ 4095 then (if (a0_7.size : Int) ≤ 40 then (if ((a0_7.size : Int) % 4) = 0 then (some t139) else (some false)) else (some false)) else (some false)) else (some false)) else (some false))) else (some false))) else (some false))) else (some false)) = some r := H
  have A3 := Aside0.mk A30
  clear A30
  by_cases c4 : t140 = true
  · subst c4
    have H1 : ((weighbridgeref05_word.f a0_1).bind fun t141 => (if t141 = true then ((weighbridgeref05_word.f a0_5).bind fun t142 => (if t142 = true then ((weighbridgeref05_word.f a0_6).bind fun t143 => (if t143 = true then (if a0_4 ≥ 0 then (if a0_4 ≤ 4095 then (if (a0_7.size : Int) ≤ 40 then (if ((a0_7.size : Int) % 4) = 0 then (some t139) else (some false)) else (some false)) else (some false)) else (some false)) else (some false))) else (some false))) else (some false))) = some r := by first | (rw [if_pos rfl] at H; exact H) | (rw [if_pos trivial] at H; exact H)
    clear H
    have H := H1
    clear H1
    replace H := Option.bind_eq_some_iff.mp H
    obtain ⟨t141, A50, H⟩ := H
    replace H : (if t141 = true then ((weighbridgeref05_word.f a0_5).bind fun t142 => (if t142 = true then ((weighbridgeref05_word.f a0_6).bind fun t143 => (if t143 = true then (if a0_4 ≥ 0 then (if a0_4 ≤ 4095 then (if (a0_7.size : Int) ≤ 40 then (if ((a0_7.size : Int) % 4) = 0 then (some t139) else (some false)) else (some false)) else (some false)) else (some false)) else (some false))) else (some false))) else (some false)) = some r := H
    have A5 := Aside0.mk A50
    clear A50
    by_cases c6 : t141 = true
    · subst c6
      have H1 : ((weighbridgeref05_word.f a0_5).bind fun t142 => (if t142 = true then ((weighbridgeref05_word.f a0_6).bind fun t143 => (if t143 = true then (if a0_4 ≥ 0 then (if a0_4 ≤ 4095 then (if (a0_7.size : Int) ≤ 40 then (if ((a0_7.size : Int) % 4) = 0 then (some t139) else (some false)) else (some false)) else (some false)) else (some false)) else (some false))) else (some false))) = some r := by first | (rw [if_pos rfl] at H; exact H) | (rw [if_pos trivial] at H; exact H)
      clear H
      have H := H1
      clear H1
      replace H := Option.bind_eq_some_iff.mp H
      obtain ⟨t142, A70, H⟩ := H
      replace H : (if t142 = true then ((weighbridgeref05_word.f a0_6).bind fun t143 => (if t143 = true then (if a0_4 ≥ 0 then (if a0_4 ≤ 4095 then (if (a0_7.size : Int) ≤ 40 then (if ((a0_7.size : Int) % 4) = 0 then (some t139) else (some false)) else (some false)) else (some false)) else (some false)) else (some false))) else (some false)) = some r := H
      have A7 := Aside0.mk A70
      clear A70
      by_cases c8 : t142 = true
      · subst c8
        have H1 : ((weighbridgeref05_word.f a0_6).bind fun t143 => (if t143 = true then (if a0_4 ≥ 0 then (if a0_4 ≤ 4095 then (if (a0_7.size : Int) ≤ 40 then (if ((a0_7.size : Int) % 4) = 0 then (some t139) else (some false)) else (some false)) else (some false)) else (some false)) else (some false))) = some r := by first | (rw [if_pos rfl] at H; exact H) | (rw [if_pos trivial] at H; exact H)
        clear H
        have H := H1
        clear H1
        replace H := Option.bind_eq_some_iff.mp H
        obtain ⟨t143, A90, H⟩ := H
        replace H : (if t143 = true then (if a0_4 ≥ 0 then (if a0_4 ≤ 4095 then (if (a0_7.size : Int) ≤ 40 then (if ((a0_7.size : Int) % 4) = 0 then (some t139) else (some false)) else (some false)) else (some false)) else (some false)) else (some false)) = some r := H
        have A9 := Aside0.mk A90
        clear A90
        by_cases c10 : t143 = true
        · subst c10
          have H1 : (if a0_4 ≥ 0 then (if a0_4 ≤ 4095 then (if (a0_7.size : Int) ≤ 40 then (if ((a0_7.size : Int) % 4) = 0 then (some t139) else (some false)) else (some false)) else (some false)) else (some false)) = some r := by first | (rw [if_pos rfl] at H; exact H) | (rw [if_pos trivial] at H; exact H)
          clear H
          have H := H1
          clear H1
          by_cases c11 : a0_4 ≥ 0
          · rw [if_pos c11] at H
            have c11b0 : decide (0 ≤ a0_4) = true := decide_eq_true c11
            clear c11
            by_cases c12 : a0_4 ≤ 4095
            · rw [if_pos c12] at H
              have c12b0 : decide (a0_4 ≤ 4095) = true := decide_eq_true c12
              clear c12
              by_cases c13 : (a0_7.size : Int) ≤ 40
              · rw [if_pos c13] at H
                have c13b0 : decide ((a0_7.size : Int) ≤ 40) = true := decide_eq_true c13
                have c13b1 : decide (a0_7.size ≤ 40) = true := decide_eq_true (by omega)
                clear c13
                by_cases c14 : ((a0_7.size : Int) % 4) = 0
                · rw [if_pos c14] at H
                  have c14b0 : (((a0_7.size : Int) % 4) == 0) = true := beq_iff_eq.mpr c14
                  have c14b1 : (((a0_7.size : Int) % 4) != 0) = false := bne_eq_false_iff_eq.mpr c14
                  clear c14
                  obtain rfl := Option.some.inj H
                  go_enter Try.func15, Try.ntmps15
                  go_wp2_with (first | ((with_reducible refine gate_dst (N := 1) rfl ?_); (try (refine gate_guard (by rfl) ?_; dsimp only)); refine box_event ?hg (N := 1) ?hd (cs := #[.int .i64 a0_0, .int .i64 a0_1, .int .u32 a0_2, .int .u32 a0_3, .int .i64 a0_4, .int .i64 a0_5, .int .i64 a0_6, .string a0_7]) (t := 31) ?hr ?_; (case hd => rfl); (case hg => rfl); (case hr => first | (go_simp; done) | (go_simp; rfl)); intro gb138 hg w15 hbox hb; have n0_ := Aside0.mk (below_step (by repeat (first | (with_reducible first | exact HB.out | apply below_alloc | apply pw_below_drewN | apply below_drew1) | exact HB.out)) hb); have n1_ := Aside0.mk (hbox); have n2_ := Aside0.mk ((by rw [hg]; exact (below_size (by repeat (first | (with_reducible first | exact HB.out | apply below_alloc | apply pw_below_drewN | apply below_drew1) | exact HB.out))) : w.heap.size ≤ gb138)); have n3_ := Aside0.mk ((by rw [hg]; exact (below_size (by repeat (first | (with_reducible first | exact HB.out | apply below_alloc | apply pw_below_drewN | apply below_drew1) | exact HB.out))) : w.heap.size ≤ gb138)); clear HB; have HB := n0_; have BK138 := n1_; have GW138 := n2_; have GE138 := n3_; clear n0_ n1_ n2_ n3_; clear hb hbox hg; have hcz16_0 : w15.cell? ⟨gb138, 0, none⟩ = some (.int .i64 a0_0) := (blk_cell BK138.out 0).trans rfl; have hcz16_1 : w15.cell? ⟨gb138, 1, none⟩ = some (.int .i64 a0_1) := (blk_cell BK138.out 1).trans rfl; have hcz16_2 : w15.cell? ⟨gb138, 2, none⟩ = some (.int .u32 a0_2) := (blk_cell BK138.out 2).trans rfl; have hcz16_3 : w15.cell? ⟨gb138, 3, none⟩ = some (.int .u32 a0_3) := (blk_cell BK138.out 3).trans rfl; have hcz16_4 : w15.cell? ⟨gb138, 4, none⟩ = some (.int .i64 a0_4) := (blk_cell BK138.out 4).trans rfl; have hcz16_5 : w15.cell? ⟨gb138, 5, none⟩ = some (.int .i64 a0_5) := (blk_cell BK138.out 5).trans rfl; have hcz16_6 : w15.cell? ⟨gb138, 6, none⟩ = some (.int .i64 a0_6) := (blk_cell BK138.out 6).trans rfl; have hcz16_7 : w15.cell? ⟨gb138, 7, none⟩ = some (.string a0_7) := (blk_cell BK138.out 7).trans rfl; have hfz16_0 := blk_frozen BK138.out 0; have hfz16_1 := blk_frozen BK138.out 1; have hfz16_2 := blk_frozen BK138.out 2; have hfz16_3 := blk_frozen BK138.out 3; have hfz16_4 := blk_frozen BK138.out 4; have hfz16_5 := blk_frozen BK138.out 5; have hfz16_6 := blk_frozen BK138.out 6; have hfz16_7 := blk_frozen BK138.out 7) | ((with_reducible refine gate_callee (f := 17) rfl ?_); refine goesL_ (some 6) rfl rfl Try.func17 (by kernel_rfl) rfl #[.string a0_7] rfl (by (try simp only [List.map_toArray, List.map_cons, List.map_nil]); first | done | rfl | (simp only [List.length_drop, List.length_take]; rfl)) ?_; (with_reducible refine (weighbridgeref04_OptsRight.calls a0_7 t139 _ A2.out).mono ?_); rintro e w' ⟨rfl, ⟨nd, rfl⟩⟩; refine ⟨_, rfl, ?_⟩) | ((with_reducible refine gate_callee (f := 25) rfl ?_); refine goesL_ (some 9) rfl rfl Try.func25 (by kernel_rfl) rfl #[.int .i64 a0_0] rfl (by (try simp only [List.map_toArray, List.map_cons, List.map_nil]); first | done | rfl | (simp only [List.length_drop, List.length_take]; rfl)) ?_; (with_reducible refine (weighbridgeref05_word.calls a0_0 true _ A3.out).mono ?_); rintro e w' ⟨rfl, ⟨nd, rfl⟩⟩; refine ⟨_, rfl, ?_⟩) | (go_at_call 25; (with_reducible refine (weighbridgeref05_word.calls a0_1 true _ A5.out).mono ?_); rintro e w' ⟨rfl, ⟨nd, rfl⟩⟩) | (go_at_call 25; (with_reducible refine (weighbridgeref05_word.calls a0_5 true _ A7.out).mono ?_); rintro e w' ⟨rfl, ⟨nd, rfl⟩⟩) | (go_at_call 25; (with_reducible refine (weighbridgeref05_word.calls a0_6 true _ A9.out).mono ?_); rintro e w' ⟨rfl, ⟨nd, rfl⟩⟩))
                  go_ret
                  exact ⟨by first | rfl | (simp [errW_none, errW_some] <;> rfl) | (simp [*, errW_none, errW_some] <;> rfl), by repeat (first | (with_reducible first | exact HB.out | apply below_alloc | apply pw_below_drewN | apply below_drew1 | refine below_set ?_ GE138.out) | exact HB.out)⟩
                · rw [if_neg c14] at H
                  have c14b0 : (((a0_7.size : Int) % 4) == 0) = false := beq_eq_false_iff_ne.mpr c14
                  have c14b1 : (((a0_7.size : Int) % 4) != 0) = true := bne_iff_ne.mpr c14
                  obtain rfl := Option.some.inj H
                  go_enter Try.func15, Try.ntmps15
                  go_wp2_with (first | ((with_reducible refine gate_dst (N := 1) rfl ?_); (try (refine gate_guard (by rfl) ?_; dsimp only)); refine box_event ?hg (N := 1) ?hd (cs := #[.int .i64 a0_0, .int .i64 a0_1, .int .u32 a0_2, .int .u32 a0_3, .int .i64 a0_4, .int .i64 a0_5, .int .i64 a0_6, .string a0_7]) (t := 31) ?hr ?_; (case hd => rfl); (case hg => rfl); (case hr => first | (go_simp; done) | (go_simp; rfl)); intro gb138 hg w17 hbox hb; have n0_ := Aside0.mk (below_step (by repeat (first | (with_reducible first | exact HB.out | apply below_alloc | apply pw_below_drewN | apply below_drew1) | exact HB.out)) hb); have n1_ := Aside0.mk (hbox); have n2_ := Aside0.mk ((by rw [hg]; exact (below_size (by repeat (first | (with_reducible first | exact HB.out | apply below_alloc | apply pw_below_drewN | apply below_drew1) | exact HB.out))) : w.heap.size ≤ gb138)); have n3_ := Aside0.mk ((by rw [hg]; exact (below_size (by repeat (first | (with_reducible first | exact HB.out | apply below_alloc | apply pw_below_drewN | apply below_drew1) | exact HB.out))) : w.heap.size ≤ gb138)); clear HB; have HB := n0_; have BK138 := n1_; have GW138 := n2_; have GE138 := n3_; clear n0_ n1_ n2_ n3_; clear hb hbox hg; have hcz18_0 : w17.cell? ⟨gb138, 0, none⟩ = some (.int .i64 a0_0) := (blk_cell BK138.out 0).trans rfl; have hcz18_1 : w17.cell? ⟨gb138, 1, none⟩ = some (.int .i64 a0_1) := (blk_cell BK138.out 1).trans rfl; have hcz18_2 : w17.cell? ⟨gb138, 2, none⟩ = some (.int .u32 a0_2) := (blk_cell BK138.out 2).trans rfl; have hcz18_3 : w17.cell? ⟨gb138, 3, none⟩ = some (.int .u32 a0_3) := (blk_cell BK138.out 3).trans rfl; have hcz18_4 : w17.cell? ⟨gb138, 4, none⟩ = some (.int .i64 a0_4) := (blk_cell BK138.out 4).trans rfl; have hcz18_5 : w17.cell? ⟨gb138, 5, none⟩ = some (.int .i64 a0_5) := (blk_cell BK138.out 5).trans rfl; have hcz18_6 : w17.cell? ⟨gb138, 6, none⟩ = some (.int .i64 a0_6) := (blk_cell BK138.out 6).trans rfl; have hcz18_7 : w17.cell? ⟨gb138, 7, none⟩ = some (.string a0_7) := (blk_cell BK138.out 7).trans rfl; have hfz18_0 := blk_frozen BK138.out 0; have hfz18_1 := blk_frozen BK138.out 1; have hfz18_2 := blk_frozen BK138.out 2; have hfz18_3 := blk_frozen BK138.out 3; have hfz18_4 := blk_frozen BK138.out 4; have hfz18_5 := blk_frozen BK138.out 5; have hfz18_6 := blk_frozen BK138.out 6; have hfz18_7 := blk_frozen BK138.out 7) | ((with_reducible refine gate_callee (f := 17) rfl ?_); refine goesL_ (some 6) rfl rfl Try.func17 (by kernel_rfl) rfl #[.string a0_7] rfl (by (try simp only [List.map_toArray, List.map_cons, List.map_nil]); first | done | rfl | (simp only [List.length_drop, List.length_take]; rfl)) ?_; (with_reducible refine (weighbridgeref04_OptsRight.calls a0_7 t139 _ A2.out).mono ?_); rintro e w' ⟨rfl, ⟨nd, rfl⟩⟩; refine ⟨_, rfl, ?_⟩) | ((with_reducible refine gate_callee (f := 25) rfl ?_); refine goesL_ (some 9) rfl rfl Try.func25 (by kernel_rfl) rfl #[.int .i64 a0_0] rfl (by (try simp only [List.map_toArray, List.map_cons, List.map_nil]); first | done | rfl | (simp only [List.length_drop, List.length_take]; rfl)) ?_; (with_reducible refine (weighbridgeref05_word.calls a0_0 true _ A3.out).mono ?_); rintro e w' ⟨rfl, ⟨nd, rfl⟩⟩; refine ⟨_, rfl, ?_⟩) | (go_at_call 25; (with_reducible refine (weighbridgeref05_word.calls a0_1 true _ A5.out).mono ?_); rintro e w' ⟨rfl, ⟨nd, rfl⟩⟩) | (go_at_call 25; (with_reducible refine (weighbridgeref05_word.calls a0_5 true _ A7.out).mono ?_); rintro e w' ⟨rfl, ⟨nd, rfl⟩⟩) | (go_at_call 25; (with_reducible refine (weighbridgeref05_word.calls a0_6 true _ A9.out).mono ?_); rintro e w' ⟨rfl, ⟨nd, rfl⟩⟩))
                  go_ret
                  exact ⟨by first | rfl | (simp [errW_none, errW_some] <;> rfl) | (simp [*, errW_none, errW_some] <;> rfl), by repeat (first | (with_reducible first | exact HB.out | apply below_alloc | apply pw_below_drewN | apply below_drew1 | refine below_set ?_ GE138.out) | exact HB.out)⟩
              · rw [if_neg c13] at H
                have c13b0 : decide ((a0_7.size : Int) ≤ 40) = false := decide_eq_false c13
                have c13b1 : decide (a0_7.size ≤ 40) = false := decide_eq_false (by omega)
                clear c13
                obtain rfl := Option.some.inj H
                go_enter Try.func15, Try.ntmps15
                go_wp2_with (first | ((with_reducible refine gate_dst (N := 1) rfl ?_); (try (refine gate_guard (by rfl) ?_; dsimp only)); refine box_event ?hg (N := 1) ?hd (cs := #[.int .i64 a0_0, .int .i64 a0_1, .int .u32 a0_2, .int .u32 a0_3, .int .i64 a0_4, .int .i64 a0_5, .int .i64 a0_6, .string a0_7]) (t := 31) ?hr ?_; (case hd => rfl); (case hg => rfl); (case hr => first | (go_simp; done) | (go_simp; rfl)); intro gb138 hg w19 hbox hb; have n0_ := Aside0.mk (below_step (by repeat (first | (with_reducible first | exact HB.out | apply below_alloc | apply pw_below_drewN | apply below_drew1) | exact HB.out)) hb); have n1_ := Aside0.mk (hbox); have n2_ := Aside0.mk ((by rw [hg]; exact (below_size (by repeat (first | (with_reducible first | exact HB.out | apply below_alloc | apply pw_below_drewN | apply below_drew1) | exact HB.out))) : w.heap.size ≤ gb138)); have n3_ := Aside0.mk ((by rw [hg]; exact (below_size (by repeat (first | (with_reducible first | exact HB.out | apply below_alloc | apply pw_below_drewN | apply below_drew1) | exact HB.out))) : w.heap.size ≤ gb138)); clear HB; have HB := n0_; have BK138 := n1_; have GW138 := n2_; have GE138 := n3_; clear n0_ n1_ n2_ n3_; clear hb hbox hg; have hcz20_0 : w19.cell? ⟨gb138, 0, none⟩ = some (.int .i64 a0_0) := (blk_cell BK138.out 0).trans rfl; have hcz20_1 : w19.cell? ⟨gb138, 1, none⟩ = some (.int .i64 a0_1) := (blk_cell BK138.out 1).trans rfl; have hcz20_2 : w19.cell? ⟨gb138, 2, none⟩ = some (.int .u32 a0_2) := (blk_cell BK138.out 2).trans rfl; have hcz20_3 : w19.cell? ⟨gb138, 3, none⟩ = some (.int .u32 a0_3) := (blk_cell BK138.out 3).trans rfl; have hcz20_4 : w19.cell? ⟨gb138, 4, none⟩ = some (.int .i64 a0_4) := (blk_cell BK138.out 4).trans rfl; have hcz20_5 : w19.cell? ⟨gb138, 5, none⟩ = some (.int .i64 a0_5) := (blk_cell BK138.out 5).trans rfl; have hcz20_6 : w19.cell? ⟨gb138, 6, none⟩ = some (.int .i64 a0_6) := (blk_cell BK138.out 6).trans rfl; have hcz20_7 : w19.cell? ⟨gb138, 7, none⟩ = some (.string a0_7) := (blk_cell BK138.out 7).trans rfl; have hfz20_0 := blk_frozen BK138.out 0; have hfz20_1 := blk_frozen BK138.out 1; have hfz20_2 := blk_frozen BK138.out 2; have hfz20_3 := blk_frozen BK138.out 3; have hfz20_4 := blk_frozen BK138.out 4; have hfz20_5 := blk_frozen BK138.out 5; have hfz20_6 := blk_frozen BK138.out 6; have hfz20_7 := blk_frozen BK138.out 7) | ((with_reducible refine gate_callee (f := 17) rfl ?_); refine goesL_ (some 6) rfl rfl Try.func17 (by kernel_rfl) rfl #[.string a0_7] rfl (by (try simp only [List.map_toArray, List.map_cons, List.map_nil]); first | done | rfl | (simp only [List.length_drop, List.length_take]; rfl)) ?_; (with_reducible refine (weighbridgeref04_OptsRight.calls a0_7 t139 _ A2.out).mono ?_); rintro e w' ⟨rfl, ⟨nd, rfl⟩⟩; refine ⟨_, rfl, ?_⟩) | ((with_reducible refine gate_callee (f := 25) rfl ?_); refine goesL_ (some 9) rfl rfl Try.func25 (by kernel_rfl) rfl #[.int .i64 a0_0] rfl (by (try simp only [List.map_toArray, List.map_cons, List.map_nil]); first | done | rfl | (simp only [List.length_drop, List.length_take]; rfl)) ?_; (with_reducible refine (weighbridgeref05_word.calls a0_0 true _ A3.out).mono ?_); rintro e w' ⟨rfl, ⟨nd, rfl⟩⟩; refine ⟨_, rfl, ?_⟩) | (go_at_call 25; (with_reducible refine (weighbridgeref05_word.calls a0_1 true _ A5.out).mono ?_); rintro e w' ⟨rfl, ⟨nd, rfl⟩⟩) | (go_at_call 25; (with_reducible refine (weighbridgeref05_word.calls a0_5 true _ A7.out).mono ?_); rintro e w' ⟨rfl, ⟨nd, rfl⟩⟩) | (go_at_call 25; (with_reducible refine (weighbridgeref05_word.calls a0_6 true _ A9.out).mono ?_); rintro e w' ⟨rfl, ⟨nd, rfl⟩⟩))
                go_ret
                exact ⟨by first | rfl | (simp [errW_none, errW_some] <;> rfl) | (simp [*, errW_none, errW_some] <;> rfl), by repeat (first | (with_reducible first | exact HB.out | apply below_alloc | apply pw_below_drewN | apply below_drew1 | refine below_set ?_ GE138.out) | exact HB.out)⟩
            · rw [if_neg c12] at H
              have c12b0 : decide (a0_4 ≤ 4095) = false := decide_eq_false c12
              clear c12
              obtain rfl := Option.some.inj H
              go_enter Try.func15, Try.ntmps15
              go_wp2_with (first | ((with_reducible refine gate_dst (N := 1) rfl ?_); (try (refine gate_guard (by rfl) ?_; dsimp only)); refine box_event ?hg (N := 1) ?hd (cs := #[.int .i64 a0_0, .int .i64 a0_1, .int .u32 a0_2, .int .u32 a0_3, .int .i64 a0_4, .int .i64 a0_5, .int .i64 a0_6, .string a0_7]) (t := 31) ?hr ?_; (case hd => rfl); (case hg => rfl); (case hr => first | (go_simp; done) | (go_simp; rfl)); intro gb138 hg w21 hbox hb; have n0_ := Aside0.mk (below_step (by repeat (first | (with_reducible first | exact HB.out | apply below_alloc | apply pw_below_drewN | apply below_drew1) | exact HB.out)) hb); have n1_ := Aside0.mk (hbox); have n2_ := Aside0.mk ((by rw [hg]; exact (below_size (by repeat (first | (with_reducible first | exact HB.out | apply below_alloc | apply pw_below_drewN | apply below_drew1) | exact HB.out))) : w.heap.size ≤ gb138)); have n3_ := Aside0.mk ((by rw [hg]; exact (below_size (by repeat (first | (with_reducible first | exact HB.out | apply below_alloc | apply pw_below_drewN | apply below_drew1) | exact HB.out))) : w.heap.size ≤ gb138)); clear HB; have HB := n0_; have BK138 := n1_; have GW138 := n2_; have GE138 := n3_; clear n0_ n1_ n2_ n3_; clear hb hbox hg; have hcz22_0 : w21.cell? ⟨gb138, 0, none⟩ = some (.int .i64 a0_0) := (blk_cell BK138.out 0).trans rfl; have hcz22_1 : w21.cell? ⟨gb138, 1, none⟩ = some (.int .i64 a0_1) := (blk_cell BK138.out 1).trans rfl; have hcz22_2 : w21.cell? ⟨gb138, 2, none⟩ = some (.int .u32 a0_2) := (blk_cell BK138.out 2).trans rfl; have hcz22_3 : w21.cell? ⟨gb138, 3, none⟩ = some (.int .u32 a0_3) := (blk_cell BK138.out 3).trans rfl; have hcz22_4 : w21.cell? ⟨gb138, 4, none⟩ = some (.int .i64 a0_4) := (blk_cell BK138.out 4).trans rfl; have hcz22_5 : w21.cell? ⟨gb138, 5, none⟩ = some (.int .i64 a0_5) := (blk_cell BK138.out 5).trans rfl; have hcz22_6 : w21.cell? ⟨gb138, 6, none⟩ = some (.int .i64 a0_6) := (blk_cell BK138.out 6).trans rfl; have hcz22_7 : w21.cell? ⟨gb138, 7, none⟩ = some (.string a0_7) := (blk_cell BK138.out 7).trans rfl; have hfz22_0 := blk_frozen BK138.out 0; have hfz22_1 := blk_frozen BK138.out 1; have hfz22_2 := blk_frozen BK138.out 2; have hfz22_3 := blk_frozen BK138.out 3; have hfz22_4 := blk_frozen BK138.out 4; have hfz22_5 := blk_frozen BK138.out 5; have hfz22_6 := blk_frozen BK138.out 6; have hfz22_7 := blk_frozen BK138.out 7) | ((with_reducible refine gate_callee (f := 17) rfl ?_); refine goesL_ (some 6) rfl rfl Try.func17 (by kernel_rfl) rfl #[.string a0_7] rfl (by (try simp only [List.map_toArray, List.map_cons, List.map_nil]); first | done | rfl | (simp only [List.length_drop, List.length_take]; rfl)) ?_; (with_reducible refine (weighbridgeref04_OptsRight.calls a0_7 t139 _ A2.out).mono ?_); rintro e w' ⟨rfl, ⟨nd, rfl⟩⟩; refine ⟨_, rfl, ?_⟩) | ((with_reducible refine gate_callee (f := 25) rfl ?_); refine goesL_ (some 9) rfl rfl Try.func25 (by kernel_rfl) rfl #[.int .i64 a0_0] rfl (by (try simp only [List.map_toArray, List.map_cons, List.map_nil]); first | done | rfl | (simp only [List.length_drop, List.length_take]; rfl)) ?_; (with_reducible refine (weighbridgeref05_word.calls a0_0 true _ A3.out).mono ?_); rintro e w' ⟨rfl, ⟨nd, rfl⟩⟩; refine ⟨_, rfl, ?_⟩) | (go_at_call 25; (with_reducible refine (weighbridgeref05_word.calls a0_1 true _ A5.out).mono ?_); rintro e w' ⟨rfl, ⟨nd, rfl⟩⟩) | (go_at_call 25; (with_reducible refine (weighbridgeref05_word.calls a0_5 true _ A7.out).mono ?_); rintro e w' ⟨rfl, ⟨nd, rfl⟩⟩) | (go_at_call 25; (with_reducible refine (weighbridgeref05_word.calls a0_6 true _ A9.out).mono ?_); rintro e w' ⟨rfl, ⟨nd, rfl⟩⟩))
              go_ret
              exact ⟨by first | rfl | (simp [errW_none, errW_some] <;> rfl) | (simp [*, errW_none, errW_some] <;> rfl), by repeat (first | (with_reducible first | exact HB.out | apply below_alloc | apply pw_below_drewN | apply below_drew1 | refine below_set ?_ GE138.out) | exact HB.out)⟩
          · rw [if_neg c11] at H
            have c11b0 : decide (0 ≤ a0_4) = false := decide_eq_false c11
            clear c11
            obtain rfl := Option.some.inj H
            go_enter Try.func15, Try.ntmps15
            go_wp2_with (first | ((with_reducible refine gate_dst (N := 1) rfl ?_); (try (refine gate_guard (by rfl) ?_; dsimp only)); refine box_event ?hg (N := 1) ?hd (cs := #[.int .i64 a0_0, .int .i64 a0_1, .int .u32 a0_2, .int .u32 a0_3, .int .i64 a0_4, .int .i64 a0_5, .int .i64 a0_6, .string a0_7]) (t := 31) ?hr ?_; (case hd => rfl); (case hg => rfl); (case hr => first | (go_simp; done) | (go_simp; rfl)); intro gb138 hg w23 hbox hb; have n0_ := Aside0.mk (below_step (by repeat (first | (with_reducible first | exact HB.out | apply below_alloc | apply pw_below_drewN | apply below_drew1) | exact HB.out)) hb); have n1_ := Aside0.mk (hbox); have n2_ := Aside0.mk ((by rw [hg]; exact (below_size (by repeat (first | (with_reducible first | exact HB.out | apply below_alloc | apply pw_below_drewN | apply below_drew1) | exact HB.out))) : w.heap.size ≤ gb138)); have n3_ := Aside0.mk ((by rw [hg]; exact (below_size (by repeat (first | (with_reducible first | exact HB.out | apply below_alloc | apply pw_below_drewN | apply below_drew1) | exact HB.out))) : w.heap.size ≤ gb138)); clear HB; have HB := n0_; have BK138 := n1_; have GW138 := n2_; have GE138 := n3_; clear n0_ n1_ n2_ n3_; clear hb hbox hg; have hcz24_0 : w23.cell? ⟨gb138, 0, none⟩ = some (.int .i64 a0_0) := (blk_cell BK138.out 0).trans rfl; have hcz24_1 : w23.cell? ⟨gb138, 1, none⟩ = some (.int .i64 a0_1) := (blk_cell BK138.out 1).trans rfl; have hcz24_2 : w23.cell? ⟨gb138, 2, none⟩ = some (.int .u32 a0_2) := (blk_cell BK138.out 2).trans rfl; have hcz24_3 : w23.cell? ⟨gb138, 3, none⟩ = some (.int .u32 a0_3) := (blk_cell BK138.out 3).trans rfl; have hcz24_4 : w23.cell? ⟨gb138, 4, none⟩ = some (.int .i64 a0_4) := (blk_cell BK138.out 4).trans rfl; have hcz24_5 : w23.cell? ⟨gb138, 5, none⟩ = some (.int .i64 a0_5) := (blk_cell BK138.out 5).trans rfl; have hcz24_6 : w23.cell? ⟨gb138, 6, none⟩ = some (.int .i64 a0_6) := (blk_cell BK138.out 6).trans rfl; have hcz24_7 : w23.cell? ⟨gb138, 7, none⟩ = some (.string a0_7) := (blk_cell BK138.out 7).trans rfl; have hfz24_0 := blk_frozen BK138.out 0; have hfz24_1 := blk_frozen BK138.out 1; have hfz24_2 := blk_frozen BK138.out 2; have hfz24_3 := blk_frozen BK138.out 3; have hfz24_4 := blk_frozen BK138.out 4; have hfz24_5 := blk_frozen BK138.out 5; have hfz24_6 := blk_frozen BK138.out 6; have hfz24_7 := blk_frozen BK138.out 7) | ((with_reducible refine gate_callee (f := 17) rfl ?_); refine goesL_ (some 6) rfl rfl Try.func17 (by kernel_rfl) rfl #[.string a0_7] rfl (by (try simp only [List.map_toArray, List.map_cons, List.map_nil]); first | done | rfl | (simp only [List.length_drop, List.length_take]; rfl)) ?_; (with_reducible refine (weighbridgeref04_OptsRight.calls a0_7 t139 _ A2.out).mono ?_); rintro e w' ⟨rfl, ⟨nd, rfl⟩⟩; refine ⟨_, rfl, ?_⟩) | ((with_reducible refine gate_callee (f := 25) rfl ?_); refine goesL_ (some 9) rfl rfl Try.func25 (by kernel_rfl) rfl #[.int .i64 a0_0] rfl (by (try simp only [List.map_toArray, List.map_cons, List.map_nil]); first | done | rfl | (simp only [List.length_drop, List.length_take]; rfl)) ?_; (with_reducible refine (weighbridgeref05_word.calls a0_0 true _ A3.out).mono ?_); rintro e w' ⟨rfl, ⟨nd, rfl⟩⟩; refine ⟨_, rfl, ?_⟩) | (go_at_call 25; (with_reducible refine (weighbridgeref05_word.calls a0_1 true _ A5.out).mono ?_); rintro e w' ⟨rfl, ⟨nd, rfl⟩⟩) | (go_at_call 25; (with_reducible refine (weighbridgeref05_word.calls a0_5 true _ A7.out).mono ?_); rintro e w' ⟨rfl, ⟨nd, rfl⟩⟩) | (go_at_call 25; (with_reducible refine (weighbridgeref05_word.calls a0_6 true _ A9.out).mono ?_); rintro e w' ⟨rfl, ⟨nd, rfl⟩⟩))
            go_ret
            exact ⟨by first | rfl | (simp [errW_none, errW_some] <;> rfl) | (simp [*, errW_none, errW_some] <;> rfl), by repeat (first | (with_reducible first | exact HB.out | apply below_alloc | apply pw_below_drewN | apply below_drew1 | refine below_set ?_ GE138.out) | exact HB.out)⟩
        · replace c10 := Bool.eq_false_iff.mpr c10
          subst c10
          have H1 : (some false) = some r := by rw [if_neg (show ¬ (false = true) by decide)] at H; exact H
          clear H
          have H := H1
          clear H1
          obtain rfl := Option.some.inj H
          go_enter Try.func15, Try.ntmps15
          go_wp2_with (first | ((with_reducible refine gate_dst (N := 1) rfl ?_); (try (refine gate_guard (by rfl) ?_; dsimp only)); refine box_event ?hg (N := 1) ?hd (cs := #[.int .i64 a0_0, .int .i64 a0_1, .int .u32 a0_2, .int .u32 a0_3, .int .i64 a0_4, .int .i64 a0_5, .int .i64 a0_6, .string a0_7]) (t := 31) ?hr ?_; (case hd => rfl); (case hg => rfl); (case hr => first | (go_simp; done) | (go_simp; rfl)); intro gb138 hg w25 hbox hb; have n0_ := Aside0.mk (below_step (by repeat (first | (with_reducible first | exact HB.out | apply below_alloc | apply pw_below_drewN | apply below_drew1) | exact HB.out)) hb); have n1_ := Aside0.mk (hbox); have n2_ := Aside0.mk ((by rw [hg]; exact (below_size (by repeat (first | (with_reducible first | exact HB.out | apply below_alloc | apply pw_below_drewN | apply below_drew1) | exact HB.out))) : w.heap.size ≤ gb138)); have n3_ := Aside0.mk ((by rw [hg]; exact (below_size (by repeat (first | (with_reducible first | exact HB.out | apply below_alloc | apply pw_below_drewN | apply below_drew1) | exact HB.out))) : w.heap.size ≤ gb138)); clear HB; have HB := n0_; have BK138 := n1_; have GW138 := n2_; have GE138 := n3_; clear n0_ n1_ n2_ n3_; clear hb hbox hg; have hcz26_0 : w25.cell? ⟨gb138, 0, none⟩ = some (.int .i64 a0_0) := (blk_cell BK138.out 0).trans rfl; have hcz26_1 : w25.cell? ⟨gb138, 1, none⟩ = some (.int .i64 a0_1) := (blk_cell BK138.out 1).trans rfl; have hcz26_2 : w25.cell? ⟨gb138, 2, none⟩ = some (.int .u32 a0_2) := (blk_cell BK138.out 2).trans rfl; have hcz26_3 : w25.cell? ⟨gb138, 3, none⟩ = some (.int .u32 a0_3) := (blk_cell BK138.out 3).trans rfl; have hcz26_4 : w25.cell? ⟨gb138, 4, none⟩ = some (.int .i64 a0_4) := (blk_cell BK138.out 4).trans rfl; have hcz26_5 : w25.cell? ⟨gb138, 5, none⟩ = some (.int .i64 a0_5) := (blk_cell BK138.out 5).trans rfl; have hcz26_6 : w25.cell? ⟨gb138, 6, none⟩ = some (.int .i64 a0_6) := (blk_cell BK138.out 6).trans rfl; have hcz26_7 : w25.cell? ⟨gb138, 7, none⟩ = some (.string a0_7) := (blk_cell BK138.out 7).trans rfl; have hfz26_0 := blk_frozen BK138.out 0; have hfz26_1 := blk_frozen BK138.out 1; have hfz26_2 := blk_frozen BK138.out 2; have hfz26_3 := blk_frozen BK138.out 3; have hfz26_4 := blk_frozen BK138.out 4; have hfz26_5 := blk_frozen BK138.out 5; have hfz26_6 := blk_frozen BK138.out 6; have hfz26_7 := blk_frozen BK138.out 7) | ((with_reducible refine gate_callee (f := 17) rfl ?_); refine goesL_ (some 6) rfl rfl Try.func17 (by kernel_rfl) rfl #[.string a0_7] rfl (by (try simp only [List.map_toArray, List.map_cons, List.map_nil]); first | done | rfl | (simp only [List.length_drop, List.length_take]; rfl)) ?_; (with_reducible refine (weighbridgeref04_OptsRight.calls a0_7 t139 _ A2.out).mono ?_); rintro e w' ⟨rfl, ⟨nd, rfl⟩⟩; refine ⟨_, rfl, ?_⟩) | ((with_reducible refine gate_callee (f := 25) rfl ?_); refine goesL_ (some 9) rfl rfl Try.func25 (by kernel_rfl) rfl #[.int .i64 a0_0] rfl (by (try simp only [List.map_toArray, List.map_cons, List.map_nil]); first | done | rfl | (simp only [List.length_drop, List.length_take]; rfl)) ?_; (with_reducible refine (weighbridgeref05_word.calls a0_0 true _ A3.out).mono ?_); rintro e w' ⟨rfl, ⟨nd, rfl⟩⟩; refine ⟨_, rfl, ?_⟩) | (go_at_call 25; (with_reducible refine (weighbridgeref05_word.calls a0_1 true _ A5.out).mono ?_); rintro e w' ⟨rfl, ⟨nd, rfl⟩⟩) | (go_at_call 25; (with_reducible refine (weighbridgeref05_word.calls a0_5 true _ A7.out).mono ?_); rintro e w' ⟨rfl, ⟨nd, rfl⟩⟩) | (go_at_call 25; (with_reducible refine (weighbridgeref05_word.calls a0_6 false _ A9.out).mono ?_); rintro e w' ⟨rfl, ⟨nd, rfl⟩⟩))
          go_ret
          exact ⟨by first | rfl | (simp [errW_none, errW_some] <;> rfl) | (simp [*, errW_none, errW_some] <;> rfl), by repeat (first | (with_reducible first | exact HB.out | apply below_alloc | apply pw_below_drewN | apply below_drew1 | refine below_set ?_ GE138.out) | exact HB.out)⟩
      · replace c8 := Bool.eq_false_iff.mpr c8
        subst c8
        have H1 : (some false) = some r := by rw [if_neg (show ¬ (false = true) by decide)] at H; exact H
        clear H
        have H := H1
        clear H1
        obtain rfl := Option.some.inj H
        go_enter Try.func15, Try.ntmps15
        go_wp2_with (first | ((with_reducible refine gate_dst (N := 1) rfl ?_); (try (refine gate_guard (by rfl) ?_; dsimp only)); refine box_event ?hg (N := 1) ?hd (cs := #[.int .i64 a0_0, .int .i64 a0_1, .int .u32 a0_2, .int .u32 a0_3, .int .i64 a0_4, .int .i64 a0_5, .int .i64 a0_6, .string a0_7]) (t := 31) ?hr ?_; (case hd => rfl); (case hg => rfl); (case hr => first | (go_simp; done) | (go_simp; rfl)); intro gb138 hg w27 hbox hb; have n0_ := Aside0.mk (below_step (by repeat (first | (with_reducible first | exact HB.out | apply below_alloc | apply pw_below_drewN | apply below_drew1) | exact HB.out)) hb); have n1_ := Aside0.mk (hbox); have n2_ := Aside0.mk ((by rw [hg]; exact (below_size (by repeat (first | (with_reducible first | exact HB.out | apply below_alloc | apply pw_below_drewN | apply below_drew1) | exact HB.out))) : w.heap.size ≤ gb138)); have n3_ := Aside0.mk ((by rw [hg]; exact (below_size (by repeat (first | (with_reducible first | exact HB.out | apply below_alloc | apply pw_below_drewN | apply below_drew1) | exact HB.out))) : w.heap.size ≤ gb138)); clear HB; have HB := n0_; have BK138 := n1_; have GW138 := n2_; have GE138 := n3_; clear n0_ n1_ n2_ n3_; clear hb hbox hg; have hcz28_0 : w27.cell? ⟨gb138, 0, none⟩ = some (.int .i64 a0_0) := (blk_cell BK138.out 0).trans rfl; have hcz28_1 : w27.cell? ⟨gb138, 1, none⟩ = some (.int .i64 a0_1) := (blk_cell BK138.out 1).trans rfl; have hcz28_2 : w27.cell? ⟨gb138, 2, none⟩ = some (.int .u32 a0_2) := (blk_cell BK138.out 2).trans rfl; have hcz28_3 : w27.cell? ⟨gb138, 3, none⟩ = some (.int .u32 a0_3) := (blk_cell BK138.out 3).trans rfl; have hcz28_4 : w27.cell? ⟨gb138, 4, none⟩ = some (.int .i64 a0_4) := (blk_cell BK138.out 4).trans rfl; have hcz28_5 : w27.cell? ⟨gb138, 5, none⟩ = some (.int .i64 a0_5) := (blk_cell BK138.out 5).trans rfl; have hcz28_6 : w27.cell? ⟨gb138, 6, none⟩ = some (.int .i64 a0_6) := (blk_cell BK138.out 6).trans rfl; have hcz28_7 : w27.cell? ⟨gb138, 7, none⟩ = some (.string a0_7) := (blk_cell BK138.out 7).trans rfl; have hfz28_0 := blk_frozen BK138.out 0; have hfz28_1 := blk_frozen BK138.out 1; have hfz28_2 := blk_frozen BK138.out 2; have hfz28_3 := blk_frozen BK138.out 3; have hfz28_4 := blk_frozen BK138.out 4; have hfz28_5 := blk_frozen BK138.out 5; have hfz28_6 := blk_frozen BK138.out 6; have hfz28_7 := blk_frozen BK138.out 7) | ((with_reducible refine gate_callee (f := 17) rfl ?_); refine goesL_ (some 6) rfl rfl Try.func17 (by kernel_rfl) rfl #[.string a0_7] rfl (by (try simp only [List.map_toArray, List.map_cons, List.map_nil]); first | done | rfl | (simp only [List.length_drop, List.length_take]; rfl)) ?_; (with_reducible refine (weighbridgeref04_OptsRight.calls a0_7 t139 _ A2.out).mono ?_); rintro e w' ⟨rfl, ⟨nd, rfl⟩⟩; refine ⟨_, rfl, ?_⟩) | ((with_reducible refine gate_callee (f := 25) rfl ?_); refine goesL_ (some 9) rfl rfl Try.func25 (by kernel_rfl) rfl #[.int .i64 a0_0] rfl (by (try simp only [List.map_toArray, List.map_cons, List.map_nil]); first | done | rfl | (simp only [List.length_drop, List.length_take]; rfl)) ?_; (with_reducible refine (weighbridgeref05_word.calls a0_0 true _ A3.out).mono ?_); rintro e w' ⟨rfl, ⟨nd, rfl⟩⟩; refine ⟨_, rfl, ?_⟩) | (go_at_call 25; (with_reducible refine (weighbridgeref05_word.calls a0_1 true _ A5.out).mono ?_); rintro e w' ⟨rfl, ⟨nd, rfl⟩⟩) | (go_at_call 25; (with_reducible refine (weighbridgeref05_word.calls a0_5 false _ A7.out).mono ?_); rintro e w' ⟨rfl, ⟨nd, rfl⟩⟩))
        go_ret
        exact ⟨by first | rfl | (simp [errW_none, errW_some] <;> rfl) | (simp [*, errW_none, errW_some] <;> rfl), by repeat (first | (with_reducible first | exact HB.out | apply below_alloc | apply pw_below_drewN | apply below_drew1 | refine below_set ?_ GE138.out) | exact HB.out)⟩
    · replace c6 := Bool.eq_false_iff.mpr c6
      subst c6
      have H1 : (some false) = some r := by rw [if_neg (show ¬ (false = true) by decide)] at H; exact H
      clear H
      have H := H1
      clear H1
      obtain rfl := Option.some.inj H
      go_enter Try.func15, Try.ntmps15
      go_wp2_with (first | ((with_reducible refine gate_dst (N := 1) rfl ?_); (try (refine gate_guard (by rfl) ?_; dsimp only)); refine box_event ?hg (N := 1) ?hd (cs := #[.int .i64 a0_0, .int .i64 a0_1, .int .u32 a0_2, .int .u32 a0_3, .int .i64 a0_4, .int .i64 a0_5, .int .i64 a0_6, .string a0_7]) (t := 31) ?hr ?_; (case hd => rfl); (case hg => rfl); (case hr => first | (go_simp; done) | (go_simp; rfl)); intro gb138 hg w29 hbox hb; have n0_ := Aside0.mk (below_step (by repeat (first | (with_reducible first | exact HB.out | apply below_alloc | apply pw_below_drewN | apply below_drew1) | exact HB.out)) hb); have n1_ := Aside0.mk (hbox); have n2_ := Aside0.mk ((by rw [hg]; exact (below_size (by repeat (first | (with_reducible first | exact HB.out | apply below_alloc | apply pw_below_drewN | apply below_drew1) | exact HB.out))) : w.heap.size ≤ gb138)); have n3_ := Aside0.mk ((by rw [hg]; exact (below_size (by repeat (first | (with_reducible first | exact HB.out | apply below_alloc | apply pw_below_drewN | apply below_drew1) | exact HB.out))) : w.heap.size ≤ gb138)); clear HB; have HB := n0_; have BK138 := n1_; have GW138 := n2_; have GE138 := n3_; clear n0_ n1_ n2_ n3_; clear hb hbox hg; have hcz30_0 : w29.cell? ⟨gb138, 0, none⟩ = some (.int .i64 a0_0) := (blk_cell BK138.out 0).trans rfl; have hcz30_1 : w29.cell? ⟨gb138, 1, none⟩ = some (.int .i64 a0_1) := (blk_cell BK138.out 1).trans rfl; have hcz30_2 : w29.cell? ⟨gb138, 2, none⟩ = some (.int .u32 a0_2) := (blk_cell BK138.out 2).trans rfl; have hcz30_3 : w29.cell? ⟨gb138, 3, none⟩ = some (.int .u32 a0_3) := (blk_cell BK138.out 3).trans rfl; have hcz30_4 : w29.cell? ⟨gb138, 4, none⟩ = some (.int .i64 a0_4) := (blk_cell BK138.out 4).trans rfl; have hcz30_5 : w29.cell? ⟨gb138, 5, none⟩ = some (.int .i64 a0_5) := (blk_cell BK138.out 5).trans rfl; have hcz30_6 : w29.cell? ⟨gb138, 6, none⟩ = some (.int .i64 a0_6) := (blk_cell BK138.out 6).trans rfl; have hcz30_7 : w29.cell? ⟨gb138, 7, none⟩ = some (.string a0_7) := (blk_cell BK138.out 7).trans rfl; have hfz30_0 := blk_frozen BK138.out 0; have hfz30_1 := blk_frozen BK138.out 1; have hfz30_2 := blk_frozen BK138.out 2; have hfz30_3 := blk_frozen BK138.out 3; have hfz30_4 := blk_frozen BK138.out 4; have hfz30_5 := blk_frozen BK138.out 5; have hfz30_6 := blk_frozen BK138.out 6; have hfz30_7 := blk_frozen BK138.out 7) | ((with_reducible refine gate_callee (f := 17) rfl ?_); refine goesL_ (some 6) rfl rfl Try.func17 (by kernel_rfl) rfl #[.string a0_7] rfl (by (try simp only [List.map_toArray, List.map_cons, List.map_nil]); first | done | rfl | (simp only [List.length_drop, List.length_take]; rfl)) ?_; (with_reducible refine (weighbridgeref04_OptsRight.calls a0_7 t139 _ A2.out).mono ?_); rintro e w' ⟨rfl, ⟨nd, rfl⟩⟩; refine ⟨_, rfl, ?_⟩) | ((with_reducible refine gate_callee (f := 25) rfl ?_); refine goesL_ (some 9) rfl rfl Try.func25 (by kernel_rfl) rfl #[.int .i64 a0_0] rfl (by (try simp only [List.map_toArray, List.map_cons, List.map_nil]); first | done | rfl | (simp only [List.length_drop, List.length_take]; rfl)) ?_; (with_reducible refine (weighbridgeref05_word.calls a0_0 true _ A3.out).mono ?_); rintro e w' ⟨rfl, ⟨nd, rfl⟩⟩; refine ⟨_, rfl, ?_⟩) | (go_at_call 25; (with_reducible refine (weighbridgeref05_word.calls a0_1 false _ A5.out).mono ?_); rintro e w' ⟨rfl, ⟨nd, rfl⟩⟩))
      go_ret
      exact ⟨by first | rfl | (simp [errW_none, errW_some] <;> rfl) | (simp [*, errW_none, errW_some] <;> rfl), by repeat (first | (with_reducible first | exact HB.out | apply below_alloc | apply pw_below_drewN | apply below_drew1 | refine below_set ?_ GE138.out) | exact HB.out)⟩
  · replace c4 := Bool.eq_false_iff.mpr c4
    subst c4
    have H1 : (some false) = some r := by rw [if_neg (show ¬ (false = true) by decide)] at H; exact H
    clear H
    have H := H1
    clear H1
    obtain rfl := Option.some.inj H
    go_enter Try.func15, Try.ntmps15
    go_wp2_with (first | ((with_reducible refine gate_dst (N := 1) rfl ?_); (try (refine gate_guard (by rfl) ?_; dsimp only)); refine box_event ?hg (N := 1) ?hd (cs := #[.int .i64 a0_0, .int .i64 a0_1, .int .u32 a0_2, .int .u32 a0_3, .int .i64 a0_4, .int .i64 a0_5, .int .i64 a0_6, .string a0_7]) (t := 31) ?hr ?_; (case hd => rfl); (case hg => rfl); (case hr => first | (go_simp; done) | (go_simp; rfl)); intro gb138 hg w31 hbox hb; have n0_ := Aside0.mk (below_step (by repeat (first | (with_reducible first | exact HB.out | apply below_alloc | apply pw_below_drewN | apply below_drew1) | exact HB.out)) hb); have n1_ := Aside0.mk (hbox); have n2_ := Aside0.mk ((by rw [hg]; exact (below_size (by repeat (first | (with_reducible first | exact HB.out | apply below_alloc | apply pw_below_drewN | apply below_drew1) | exact HB.out))) : w.heap.size ≤ gb138)); have n3_ := Aside0.mk ((by rw [hg]; exact (below_size (by repeat (first | (with_reducible first | exact HB.out | apply below_alloc | apply pw_below_drewN | apply below_drew1) | exact HB.out))) : w.heap.size ≤ gb138)); clear HB; have HB := n0_; have BK138 := n1_; have GW138 := n2_; have GE138 := n3_; clear n0_ n1_ n2_ n3_; clear hb hbox hg; have hcz32_0 : w31.cell? ⟨gb138, 0, none⟩ = some (.int .i64 a0_0) := (blk_cell BK138.out 0).trans rfl; have hcz32_1 : w31.cell? ⟨gb138, 1, none⟩ = some (.int .i64 a0_1) := (blk_cell BK138.out 1).trans rfl; have hcz32_2 : w31.cell? ⟨gb138, 2, none⟩ = some (.int .u32 a0_2) := (blk_cell BK138.out 2).trans rfl; have hcz32_3 : w31.cell? ⟨gb138, 3, none⟩ = some (.int .u32 a0_3) := (blk_cell BK138.out 3).trans rfl; have hcz32_4 : w31.cell? ⟨gb138, 4, none⟩ = some (.int .i64 a0_4) := (blk_cell BK138.out 4).trans rfl; have hcz32_5 : w31.cell? ⟨gb138, 5, none⟩ = some (.int .i64 a0_5) := (blk_cell BK138.out 5).trans rfl; have hcz32_6 : w31.cell? ⟨gb138, 6, none⟩ = some (.int .i64 a0_6) := (blk_cell BK138.out 6).trans rfl; have hcz32_7 : w31.cell? ⟨gb138, 7, none⟩ = some (.string a0_7) := (blk_cell BK138.out 7).trans rfl; have hfz32_0 := blk_frozen BK138.out 0; have hfz32_1 := blk_frozen BK138.out 1; have hfz32_2 := blk_frozen BK138.out 2; have hfz32_3 := blk_frozen BK138.out 3; have hfz32_4 := blk_frozen BK138.out 4; have hfz32_5 := blk_frozen BK138.out 5; have hfz32_6 := blk_frozen BK138.out 6; have hfz32_7 := blk_frozen BK138.out 7) | ((with_reducible refine gate_callee (f := 17) rfl ?_); refine goesL_ (some 6) rfl rfl Try.func17 (by kernel_rfl) rfl #[.string a0_7] rfl (by (try simp only [List.map_toArray, List.map_cons, List.map_nil]); first | done | rfl | (simp only [List.length_drop, List.length_take]; rfl)) ?_; (with_reducible refine (weighbridgeref04_OptsRight.calls a0_7 t139 _ A2.out).mono ?_); rintro e w' ⟨rfl, ⟨nd, rfl⟩⟩; refine ⟨_, rfl, ?_⟩) | ((with_reducible refine gate_callee (f := 25) rfl ?_); refine goesL_ (some 9) rfl rfl Try.func25 (by kernel_rfl) rfl #[.int .i64 a0_0] rfl (by (try simp only [List.map_toArray, List.map_cons, List.map_nil]); first | done | rfl | (simp only [List.length_drop, List.length_take]; rfl)) ?_; (with_reducible refine (weighbridgeref05_word.calls a0_0 false _ A3.out).mono ?_); rintro e w' ⟨rfl, ⟨nd, rfl⟩⟩; refine ⟨_, rfl, ?_⟩))
    go_ret
    exact ⟨by first | rfl | (simp [errW_none, errW_some] <;> rfl) | (simp [*, errW_none, errW_some] <;> rfl), by repeat (first | (with_reducible first | exact HB.out | apply below_alloc | apply pw_below_drewN | apply below_drew1 | refine below_set ?_ GE138.out) | exact HB.out)⟩

theorem r5_word (n : Int) : weighbridgeref05_word.f n = some (Sp.fits 2 n) := by
  have f : Sp.fits 2 n = decide (0 ≤ n ∧ n ≤ 65535) := Sp.fits2_b
  unfold weighbridgeref05_word.f
  rw [f]
  by_cases h : n ≥ 0
  · rw [if_pos h]
    by_cases h2 : n ≤ 65535
    · rw [decide_eq_true h2, decide_eq_true (by omega : 0 ≤ n ∧ n ≤ 65535)]
    · rw [decide_eq_false h2, decide_eq_false (by omega : ¬ (0 ≤ n ∧ n ≤ 65535))]
  · rw [if_neg h, decide_eq_false (by omega : ¬ (0 ≤ n ∧ n ≤ 65535))]
theorem r5_right_no {a b c d e : Int} {o : List UInt8} (h : ¬ Sp.tcpRight a b c d e o = true) : Sp.tcpRight a b c d e o = false := Sp.bool_no h
def weighbridgeref05_Right.f (a0_0 a0_1 a0_2 a0_3 a0_4 a0_5 a0_6 : Int) (a0_7 : ByteArray) : Option Bool := if a0_7.size ≤ 140737488355328 then some (Sp.tcpRight a0_0 a0_1 a0_4 a0_5 a0_6 (bl a0_7)) else none
theorem weighbridgeref05_Right_eq {a0_0 a0_1 a0_2 a0_3 a0_4 a0_5 a0_6 : Int} {a0_7 : ByteArray} (h : a0_7.size ≤ 140737488355328) : weighbridgeref05_Right.f a0_0 a0_1 a0_2 a0_3 a0_4 a0_5 a0_6 a0_7 = some (Sp.tcpRight a0_0 a0_1 a0_4 a0_5 a0_6 (bl a0_7)) := by unfold weighbridgeref05_Right.f; exact if_pos h
theorem weighbridgeref05_Right_ev (a0_0 a0_1 a0_2 a0_3 a0_4 a0_5 a0_6 : Int) (a0_7 : ByteArray) (r : Bool) (h : weighbridgeref05_Right.f a0_0 a0_1 a0_2 a0_3 a0_4 a0_5 a0_6 a0_7 = some r) : weighbridgeref05_Right_p.f a0_0 a0_1 a0_2 a0_3 a0_4 a0_5 a0_6 a0_7 = some r := by
  unfold weighbridgeref05_Right.f at h
  split at h
  case isFalse => cases h
  case isTrue hs =>
    rw [← h]
    unfold weighbridgeref05_Right_p.f
    have hl := bl_length a0_7
    rw [weighbridgeref04_OptsRight_eq hs, Option.bind_some, r5_word, Option.bind_some]
    by_cases h1 : Sp.fits 2 a0_0 = true
    · rw [if_pos h1, r5_word, Option.bind_some]
      by_cases h2 : Sp.fits 2 a0_1 = true
      · rw [if_pos h2, r5_word, Option.bind_some]
        by_cases h3 : Sp.fits 2 a0_5 = true
        · rw [if_pos h3, r5_word, Option.bind_some]
          by_cases h4 : Sp.fits 2 a0_6 = true
          · rw [if_pos h4]
            by_cases h5 : a0_4 ≥ 0
            · rw [if_pos h5]
              by_cases h6 : a0_4 ≤ 4095
              · rw [if_pos h6]
                by_cases h7 : (a0_7.size : Int) ≤ 40
                · rw [if_pos h7]
                  by_cases h8 : ((a0_7.size : Int) % 4) = 0
                  · rw [if_pos h8]
                    by_cases h9 : Sp.optsOk (bl a0_7) = true
                    · rw [h9, Sp.tcpRight_iff.2 ⟨h1, h2, h3, h4, ⟨by omega, by omega⟩, ⟨by omega, by omega⟩, h9⟩]
                    · rw [Sp.bool_no h9, r5_right_no (fun h => h9 (Sp.tcpRight_iff.1 h).2.2.2.2.2.2)]
                  · rw [if_neg h8, r5_right_no (fun h => by have := (Sp.tcpRight_iff.1 h).2.2.2.2.2.1; omega)]
                · rw [if_neg h7, r5_right_no (fun h => by have := (Sp.tcpRight_iff.1 h).2.2.2.2.2.1; omega)]
              · rw [if_neg h6, r5_right_no (fun h => by have := (Sp.tcpRight_iff.1 h).2.2.2.2.1; omega)]
            · rw [if_neg h5, r5_right_no (fun h => by have := (Sp.tcpRight_iff.1 h).2.2.2.2.1; omega)]
          · rw [if_neg h4, r5_right_no (fun h => h4 (Sp.tcpRight_iff.1 h).2.2.2.1)]
        · rw [if_neg h3, r5_right_no (fun h => h3 (Sp.tcpRight_iff.1 h).2.2.1)]
      · rw [if_neg h2, r5_right_no (fun h => h2 (Sp.tcpRight_iff.1 h).2.1)]
    · rw [if_neg h1, r5_right_no (fun h => h1 (Sp.tcpRight_iff.1 h).1)]
theorem weighbridgeref05_Right.calls (a0_0 : Int) (a0_1 : Int) (a0_2 : Int) (a0_3 : Int) (a0_4 : Int) (a0_5 : Int) (a0_6 : Int) (a0_7 : ByteArray) (r : Bool) (w : World) (h : weighbridgeref05_Right.f a0_0 a0_1 a0_2 a0_3 a0_4 a0_5 a0_6 a0_7 = some r) :
    Calls Try.prog 15 #[.agg #[.int .i64 a0_0, .int .i64 a0_1, .int .u32 a0_2, .int .u32 a0_3, .int .i64 a0_4, .int .i64 a0_5, .int .i64 a0_6, .string a0_7]] w fun e w' => e = .returned (.bool r) ∧ Below w.heap.size w w' := by
  have hk := weighbridgeref05_Right_ev a0_0 a0_1 a0_2 a0_3 a0_4 a0_5 a0_6 a0_7 _ h
  exact weighbridgeref05_Right_p.calls a0_0 a0_1 a0_2 a0_3 a0_4 a0_5 a0_6 a0_7 r w hk

/-! ### weighbridgeref05_num: function 23 -/
def weighbridgeref05_num.f (a0 : Int) (a1 : Int) : Option (ByteArray) := (weighbridgeref04_Num.f a0 a1).bind fun t149 => (some t149)
set_option maxHeartbeats 8000000 in
set_option maxRecDepth 100000 in
theorem weighbridgeref05_num.calls (a0 : Int) (a1 : Int) (r : ByteArray) (w : World) (h : weighbridgeref05_num.f a0 a1 = some r) :
    Calls Try.prog 23 #[.int .i64 a0, .int .i64 a1] w fun e w' => e = .returned (.string r) ∧ Below w.heap.size w w' := by
  have HB := Aside0.mk (Below.refl w.heap.size w)
  have H : ((weighbridgeref04_Num.f a0 a1).bind fun t149 => (some t149)) = some r := h
  clear h
  replace H := Option.bind_eq_some_iff.mp H
  obtain ⟨t149, A30, H⟩ := H
  replace H : (some t149) = some r := H
  have A3 := Aside0.mk A30
  clear A30
  obtain rfl := Option.some.inj H
  go_enter Try.func23, Try.ntmps23
  go_wp2_with (first | ((with_reducible refine gate_callee (f := 28) rfl ?_); refine goesL_ (some 7) rfl rfl Try.func28 (by kernel_rfl) rfl #[.int .i64 a0, .int .i64 a1] rfl (by (try simp only [List.map_toArray, List.map_cons, List.map_nil]); first | done | rfl | (simp only [List.length_drop, List.length_take]; rfl)) ?_; (with_reducible refine (weighbridgeref04_Num.calls a0 a1 t149 _ A3.out).mono ?_); rintro e w4 ⟨rfl, hb⟩; (try clear A3); refine ⟨_, rfl, ?_⟩; have n0_ := Aside0.mk (below_step (by repeat (first | (with_reducible first | exact HB.out | apply below_alloc | apply pw_below_drewN | apply below_drew1) | exact HB.out)) hb); clear HB; have HB := n0_; clear n0_; (try clear hb); (try clear hb2); (try clear hk); (try clear hi)))
  go_ret
  exact ⟨by first | rfl | (simp [errW_none, errW_some] <;> rfl) | (simp [*, errW_none, errW_some] <;> rfl), by repeat (first | (with_reducible first | exact HB.out | apply below_alloc | apply pw_below_drewN | apply below_drew1) | exact HB.out)⟩

/-! ### weighbridgeref05_Build_p: function 12 -/
def weighbridgeref05_Build_p.f (a0_0 : Int) (a0_1 : Int) (a0_2 : Int) (a0_3 : Int) (a0_4 : Int) (a0_5 : Int) (a0_6 : Int) (a0_7 : ByteArray) (a1 : ByteArray) : Option (ByteArray × Int) := (weighbridgeref05_Right.f a0_0 a0_1 a0_2 a0_3 a0_4 a0_5 a0_6 a0_7).bind fun t151 => (if t151 = true then (if (wrap64 ((wrap64 (20 + (a0_7.size : Int))) + (a1.size : Int))) > 1500 then (some ((⟨#[]⟩ : ByteArray), 18)) else ((weighbridgeref05_num.f 2 a0_0).bind fun t152 => ((weighbridgeref05_num.f 2 a0_1).bind fun t153 => (if t152.size + t153.size ≤ 9223372036854775807 then ((weighbridgeref05_num.f 4 (wrap64 (a0_2))).bind fun t154 => (if (t152 ++ t153).size + t154.size ≤ 9223372036854775807 then ((weighbridgeref05_num.f 4 (wrap64 (a0_3))).bind fun t155 => (if ((t152 ++ t153) ++ t154).size + t155.size ≤ 9223372036854775807 then ((weighbridgeref05_num.f 2 (wrap64 ((wrap64 (4096 * (wrap64 (Int.tdiv (wrap64 (20 + (a0_7.size : Int))) 4)))) + a0_4))).bind fun t156 => (if (((t152 ++ t153) ++ t154) ++ t155).size + t156.size ≤ 9223372036854775807 then ((weighbridgeref05_num.f 2 a0_5).bind fun t157 => (if ((((t152 ++ t153) ++ t154) ++ t155) ++ t156).size + t157.size ≤ 9223372036854775807 then (if (((((t152 ++ t153) ++ t154) ++ t155) ++ t156) ++ t157).size + 2 ≤ 9223372036854775807 then ((weighbridgeref05_num.f 2 a0_6).bind fun t158 => (if ((((((t152 ++ t153) ++ t154) ++ t155) ++ t156) ++ t157) ++ (⟨#[0, 0]⟩ : ByteArray)).size + t158.size ≤ 9223372036854775807 then (if (((((((t152 ++ t153) ++ t154) ++ t155) ++ t156) ++ t157) ++ (⟨#[0, 0]⟩ : ByteArray)) ++ t158).size + a0_7.size ≤ 9223372036854775807 then (if ((((((((t152 ++ t153) ++ t154) ++ t155) ++ t156) ++ t157) ++ (⟨#[0, 0]⟩ : ByteArray)) ++ t158) ++ a0_7).size + a1.size ≤ 9223372036854775807 then (some (((((((((t152 ++ t153) ++ t154) ++ t155) ++ t156) ++ t157) ++ (⟨#[0, 0]⟩ : ByteArray)) ++ t158) ++ a0_7) ++ a1, 0)) else (none)) else (none)) else (none))) else (none)) else (none))) else (none))) else (none))) else (none))) else (none))))) else (some ((⟨#[]⟩ : ByteArray), 1)))
def weighbridgeref05_Build_p.T7 : Bool × List (List Nat × List Nat) := (true, [([], []), ([0], [0]), ([1], [1]), ([], []), ([3], [3]), ([4, 2], [4]), ([2, 5], [2, 5]), ([], []), ([7], [7]), ([8], [8]), ([9, 5], [9]), ([6, 10], [6, 10]), ([], []), ([12], [12]), ([13], [13]), ([14, 10], [14]), ([11, 15], [11, 15]), ([], []), ([17], [17]), ([18], [18]), ([], []), ([20], [20]), ([19, 21], [19, 21]), ([22, 15], [22]), ([16, 23], [16, 23]), ([], []), ([25], [25]), ([26, 23], [26]), ([24, 27], [24, 27]), ([28], [28]), ([], []), ([30], [30]), ([31, 27], [31]), ([29, 32], [29, 32]), ([], []), ([34], [34]), ([33, 35], [33, 35]), ([], []), ([36, 37], [36, 37]), ([38, 32, 0, 1, 2, 3, 4, 5, 6, 7, 8, 9, 10, 11, 12, 13, 14, 15, 16, 17, 18, 19, 20, 21, 22, 23, 24, 25, 26, 27, 28, 29, 30, 31, 32, 33, 34, 35, 36, 37, 38], [38]), ([39, 0, 1, 2, 3, 4, 5, 6, 7, 8, 9, 10, 11, 12, 13, 14, 15, 16, 17, 18, 19, 20, 21, 22, 23, 24, 25, 26, 27, 28, 29, 30, 31, 32, 33, 34, 35, 36, 37, 38, 39], [])])
def weighbridgeref05_Build_p.B7 : List Nat := [0, 1, 3, 0, 8, 31, 63, 0, 128, 384, 959, 2047, 0, 4096, 12288, 30655, 65535, 0, 131072, 393216, 0, 1048576, 4063232, 8320959, 16777215, 0, 33554432, 117372863, 268435455, 536870911, 0, 1073741824, 3472816063, 8589934591, 0, 17179869184, 68719476735, 0, 274877906943, 549755813887, 1099511627775]
theorem weighbridgeref05_Build_p.tab7 : rtab .any (opsOf Try.f12 7) = weighbridgeref05_Build_p.T7 := by kernel_rfl
theorem weighbridgeref05_Build_p.bits7 : waitsOk weighbridgeref05_Build_p.T7.2 weighbridgeref05_Build_p.B7 = true := by kernel_rfl
set_option maxHeartbeats 8000000 in
set_option maxRecDepth 100000 in
theorem weighbridgeref05_Build_p.calls (a0_0 : Int) (a0_1 : Int) (a0_2 : Int) (a0_3 : Int) (a0_4 : Int) (a0_5 : Int) (a0_6 : Int) (a0_7 : ByteArray) (a1 : ByteArray) (r1 : ByteArray) (r2 : Int) (w : World) (h : weighbridgeref05_Build_p.f a0_0 a0_1 a0_2 a0_3 a0_4 a0_5 a0_6 a0_7 a1 = some (r1, r2)) :
    Calls Try.prog 12 #[.agg #[.int .i64 a0_0, .int .i64 a0_1, .int .u32 a0_2, .int .u32 a0_3, .int .i64 a0_4, .int .i64 a0_5, .int .i64 a0_6, .string a0_7], .string a1] w fun e w' => e = .returned (.tuple #[.string r1, .int .i64 r2]) ∧ Below w.heap.size w w' := by
  have hu31 := Try.underlying31
  have HB := Aside0.mk (Below.refl w.heap.size w)
  have H : ((weighbridgeref05_Right.f a0_0 a0_1 a0_2 a0_3 a0_4 a0_5 a0_6 a0_7).bind fun t151 => (if t151 = true then (if (wrap64 ((wrap64 (20 + (a0_7.size : Int))) + (a1.size : Int))) > 1500 then (some ((⟨#[]⟩ : ByteArray), 18)) else ((weighbridgeref05_num.f 2 a0_0).bind fun t152 => ((weighbridgeref05_num.f 2 a0_1).bind fun t153 => (if t152.size + t153.size ≤ 9223372036854775807 then ((weighbridgeref05_num.f 4 (wrap64 (a0_2))).bind fun t154 => (if (t152 ++ t153).size + t154.size ≤ 9223372036854775807 then ((weighbridgeref05_num.f 4 (wrap64 (a0_3))).bind fun t155 => (if ((t152 ++ t153) ++ t154).size + t155.size ≤ 9223372036854775807 then ((weighbridgeref05_num.f 2 (wrap64 ((wrap64 (4096 * (wrap64 (Int.tdiv (wrap64 (20 + (a0_7.size : Int))) 4)))) + a0_4))).bind fun t156 => (if (((t152 ++ t153) ++ t154) ++ t155).size + t156.size ≤ 9223372036854775807 then ((weighbridgeref05_num.f 2 a0_5).bind fun t157 => (if ((((t152 ++ t153) ++ t154) ++ t155) ++ t156).size + t157.size ≤ 9223372036854775807 then (if (((((t152 ++ t153) ++ t154) ++ t155) ++ t156) ++ t157).size + 2 ≤ 9223372036854775807 then ((weighbridgeref05_num.f 2 a0_6).bind fun t158 => (if ((((((t152 ++ t153) ++ t154) ++ t155) ++ t156) ++ t157) ++ (⟨#[0, 0]⟩ : ByteArray)).size + t158.size ≤ 9223372036854775807 then (if (((((((t152 ++ t153) ++ t154) ++ t155) ++ t156) ++ t157) ++ (⟨#[0, 0]⟩ : ByteArray)) ++ t158).size + a0_7.size ≤ 9223372036854775807 then (if ((((((((t152 ++ t153) ++ t154) ++ t155) ++ t156) ++ t157) ++ (⟨#[0, 0]⟩ : ByteArray)) ++ t158) ++ a0_7).size + a1.size ≤ 9223372036854775807 then (some (((((((((t152 ++ t153) ++ t154) ++ t155) ++ t156) ++ t157) ++ (⟨#[0, 0]⟩ : ByteArray)) ++ t158) ++ a0_7) ++ a1, 0)) else (none)) else (none)) else (none))) else (none)) else (none))) else (none))) else (none))) else (none))) else (none))))) else (some ((⟨#[]⟩ : ByteArray), 1)))) = some (r1, r2) := h
  clear h
  replace H := Option.bind_eq_some_iff.mp H
  obtain ⟨t151, A30, H⟩ := H
  replace H : (if t151 = true then (if (wrap64 ((wrap64 (20 + (a0_7.size : Int))) + (a1.size : Int))) > 1500 then (some ((⟨#[]⟩ : ByteArray), 18)) else ((weighbridgeref05_num.f 2 a0_0).bind fun t152 => ((weighbridgeref05_num.f 2 a0_1).bind fun t153 => (if t152.size + t153.size ≤ 9223372036854775807 then ((weighbridgeref05_num.f 4 (wrap64 (a0_2))).bind fun t154 => (if (t152 ++ t153).size + t154.size ≤ 9223372036854775807 then ((weighbridgeref05_num.f 4 (wrap64 (a0_3))).bind fun t155 => (if ((t152 ++ t153) ++ t154).size + t155.size ≤ 9223372036854775807 then ((weighbridgeref05_num.f 2 (wrap64 ((wrap64 (4096 * (wrap64 (Int.tdiv (wrap64 (20 + (a0_7.size : Int))) 4)))) + a0_4))).bind fun t156 => (if (((t152 ++ t153) ++ t154) ++ t155).size + t156.size ≤ 9223372036854775807 then ((weighbridgeref05_num.f 2 a0_5).bind fun t157 => (if ((((t152 ++ t153) ++ t154) ++ t155) ++ t156).size + t157.size ≤ 9223372036854775807 then (if (((((t152 ++ t153) ++ t154) ++ t155) ++ t156) ++ t157).size + 2 ≤ 9223372036854775807 then ((weighbridgeref05_num.f 2 a0_6).bind fun t158 => (if ((((((t152 ++ t153) ++ t154) ++ t155) ++ t156) ++ t157) ++ (⟨#[0, 0]⟩ : ByteArray)).size + t158.size ≤ 9223372036854775807 then (if (((((((t152 ++ t153) ++ t154) ++ t155) ++ t156) ++ t157) ++ (⟨#[0, 0]⟩ : ByteArray)) ++ t158).size + a0_7.size ≤ 9223372036854775807 then (if ((((((((t152 ++ t153) ++ t154) ++ t155) ++ t156) ++ t157) ++ (⟨#[0, 0]⟩ : ByteArray)) ++ t158) ++ a0_7).size + a1.size ≤ 9223372036854775807 then (some (((((((((t152 ++ t153) ++ t154) ++ t155) ++ t156) ++ t157) ++ (⟨#[0, 0]⟩ : ByteArray)) ++ t158) ++ a0_7) ++ a1, 0)) else (none)) else (none)) else (none))) else (none)) else (none))) else (none))) else (none))) else (none))) else (none))))) else (some ((⟨#[]⟩ : ByteArray), 1))) = some (r1, r2) := H
  have A3 := Aside0.mk A30
  clear A30
  by_cases c4 : t151 = true
  · subst c4
    have H1 : (if (wrap64 ((wrap64 (20 + (a0_7.size : Int))) + (a1.size : Int))) > 1500 then (some ((⟨#[]⟩ : ByteArray), 18)) else ((weighbridgeref05_num.f 2 a0_0).bind fun t152 => ((weighbridgeref05_num.f 2 a0_1).bind fun t153 => (if t152.size + t153.size ≤ 9223372036854775807 then ((weighbridgeref05_num.f 4 (wrap64 (a0_2))).bind fun t154 => (if (t152 ++ t153).size + t154.size ≤ 9223372036854775807 then ((weighbridgeref05_num.f 4 (wrap64 (a0_3))).bind fun t155 => (if ((t152 ++ t153) ++ t154).size + t155.size ≤ 9223372036854775807 then ((weighbridgeref05_num.f 2 (wrap64 ((wrap64 (4096 * (wrap64 (Int.tdiv (wrap64 (20 + (a0_7.size : Int))) 4)))) + a0_4))).bind fun t156 => (if (((t152 ++ t153) ++ t154) ++ t155).size + t156.size ≤ 9223372036854775807 then ((weighbridgeref05_num.f 2 a0_5).bind fun t157 => (if ((((t152 ++ t153) ++ t154) ++ t155) ++ t156).size + t157.size ≤ 9223372036854775807 then (if (((((t152 ++ t153) ++ t154) ++ t155) ++ t156) ++ t157).size + 2 ≤ 9223372036854775807 then ((weighbridgeref05_num.f 2 a0_6).bind fun t158 => (if ((((((t152 ++ t153) ++ t154) ++ t155) ++ t156) ++ t157) ++ (⟨#[0, 0]⟩ : ByteArray)).size + t158.size ≤ 9223372036854775807 then (if (((((((t152 ++ t153) ++ t154) ++ t155) ++ t156) ++ t157) ++ (⟨#[0, 0]⟩ : ByteArray)) ++ t158).size + a0_7.size ≤ 9223372036854775807 then (if ((((((((t152 ++ t153) ++ t154) ++ t155) ++ t156) ++ t157) ++ (⟨#[0, 0]⟩ : ByteArray)) ++ t158) ++ a0_7).size + a1.size ≤ 9223372036854775807 then (some (((((((((t152 ++ t153) ++ t154) ++ t155) ++ t156) ++ t157) ++ (⟨#[0, 0]⟩ : ByteArray)) ++ t158) ++ a0_7) ++ a1, 0)) else (none)) else (none)) else (none))) else (none)) else (none))) else (none))) else (none))) else (none))) else (none))))) = some (r1, r2) := by first | (rw [if_pos rfl] at H; exact H) | (rw [if_pos trivial] at H; exact H)
    clear H
    have H := H1
    clear H1
    by_cases c5 : (wrap64 ((wrap64 (20 + (a0_7.size : Int))) + (a1.size : Int))) > 1500
    · rw [if_pos c5] at H
      have c5b0 : decide (1500 < (wrap64 ((wrap64 (20 + (a0_7.size : Int))) + (a1.size : Int)))) = true := decide_eq_true c5
      clear c5
      simp only [Option.some.injEq, Prod.mk.injEq] at H
      obtain ⟨rfl, rfl⟩ := H
      go_enter Try.func12, Try.ntmps12
      go_wp2_with (first | ((with_reducible refine gate_dst (N := 2) rfl ?_); refine box_event ?hg (N := 2) ?hd (cs := #[.int .i64 a0_0, .int .i64 a0_1, .int .u32 a0_2, .int .u32 a0_3, .int .i64 a0_4, .int .i64 a0_5, .int .i64 a0_6, .string a0_7]) (t := 31) ?hr ?_; (case hd => rfl); (case hg => rfl); (case hr => first | (go_simp; done) | (go_simp; rfl)); intro gb150 hg w6 hbox hb; have n0_ := Aside0.mk (below_step (by repeat (first | (with_reducible first | exact HB.out | apply below_alloc | apply pw_below_drewN | apply below_drew1) | exact HB.out)) hb); have n1_ := Aside0.mk (hbox); have n2_ := Aside0.mk ((by rw [hg]; exact (below_size (by repeat (first | (with_reducible first | exact HB.out | apply below_alloc | apply pw_below_drewN | apply below_drew1) | exact HB.out))) : w.heap.size ≤ gb150)); have n3_ := Aside0.mk ((by rw [hg]; exact (below_size (by repeat (first | (with_reducible first | exact HB.out | apply below_alloc | apply pw_below_drewN | apply below_drew1) | exact HB.out))) : w.heap.size ≤ gb150)); clear HB; have HB := n0_; have BK150 := n1_; have GW150 := n2_; have GE150 := n3_; clear n0_ n1_ n2_ n3_; clear hb hbox hg; have hcz7_0 : w6.cell? ⟨gb150, 0, none⟩ = some (.int .i64 a0_0) := (blk_cell BK150.out 0).trans rfl; have hcz7_1 : w6.cell? ⟨gb150, 1, none⟩ = some (.int .i64 a0_1) := (blk_cell BK150.out 1).trans rfl; have hcz7_2 : w6.cell? ⟨gb150, 2, none⟩ = some (.int .u32 a0_2) := (blk_cell BK150.out 2).trans rfl; have hcz7_3 : w6.cell? ⟨gb150, 3, none⟩ = some (.int .u32 a0_3) := (blk_cell BK150.out 3).trans rfl; have hcz7_4 : w6.cell? ⟨gb150, 4, none⟩ = some (.int .i64 a0_4) := (blk_cell BK150.out 4).trans rfl; have hcz7_5 : w6.cell? ⟨gb150, 5, none⟩ = some (.int .i64 a0_5) := (blk_cell BK150.out 5).trans rfl; have hcz7_6 : w6.cell? ⟨gb150, 6, none⟩ = some (.int .i64 a0_6) := (blk_cell BK150.out 6).trans rfl; have hcz7_7 : w6.cell? ⟨gb150, 7, none⟩ = some (.string a0_7) := (blk_cell BK150.out 7).trans rfl; have hfz7_0 := blk_frozen BK150.out 0; have hfz7_1 := blk_frozen BK150.out 1; have hfz7_2 := blk_frozen BK150.out 2; have hfz7_3 := blk_frozen BK150.out 3; have hfz7_4 := blk_frozen BK150.out 4; have hfz7_5 := blk_frozen BK150.out 5; have hfz7_6 := blk_frozen BK150.out 6; have hfz7_7 := blk_frozen BK150.out 7) | ((with_reducible refine gate_callee (f := 15) rfl ?_); refine goesL_ (some 9) rfl rfl Try.func15 (by kernel_rfl) rfl #[.agg #[.int .i64 a0_0, .int .i64 a0_1, .int .u32 a0_2, .int .u32 a0_3, .int .i64 a0_4, .int .i64 a0_5, .int .i64 a0_6, .string a0_7]] rfl (by (try simp only [List.map_toArray, List.map_cons, List.map_nil]); first | done | rfl | (simp only [List.length_drop, List.length_take]; rfl)) ?_; (with_reducible refine (weighbridgeref05_Right.calls a0_0 a0_1 a0_2 a0_3 a0_4 a0_5 a0_6 a0_7 true _ A3.out).mono ?_); rintro e w8 ⟨rfl, hb⟩; (try clear A3); refine ⟨_, rfl, ?_⟩; have n0_ := Aside0.mk (blk_below (g := gb150) (o := .cells #[.int .i64 a0_0, .int .i64 a0_1, .int .u32 a0_2, .int .u32 a0_3, .int .i64 a0_4, .int .i64 a0_5, .int .i64 a0_6, .string a0_7] 31 (0, 0)) (by (with_reducible repeat (first | refine blk_drewN ?_ _ | refine blk_drew ?_ | refine blk_alloc ?_ _)); exact BK150.out) hb); have n1_ := Aside0.mk (below_step (by repeat (first | (with_reducible first | exact HB.out | apply below_alloc | apply pw_below_drewN | apply below_drew1 | refine below_set ?_ GE150.out) | exact HB.out)) hb); clear BK150; clear HB; have BK150 := n0_; have HB := n1_; clear n0_ n1_; (try clear hb); (try clear hb2); (try clear hk); (try clear hi); have hcz9_0 : w8.cell? ⟨gb150, 0, none⟩ = some (.int .i64 a0_0) := (blk_cell BK150.out 0).trans rfl; have hcz9_1 : w8.cell? ⟨gb150, 1, none⟩ = some (.int .i64 a0_1) := (blk_cell BK150.out 1).trans rfl; have hcz9_2 : w8.cell? ⟨gb150, 2, none⟩ = some (.int .u32 a0_2) := (blk_cell BK150.out 2).trans rfl; have hcz9_3 : w8.cell? ⟨gb150, 3, none⟩ = some (.int .u32 a0_3) := (blk_cell BK150.out 3).trans rfl; have hcz9_4 : w8.cell? ⟨gb150, 4, none⟩ = some (.int .i64 a0_4) := (blk_cell BK150.out 4).trans rfl; have hcz9_5 : w8.cell? ⟨gb150, 5, none⟩ = some (.int .i64 a0_5) := (blk_cell BK150.out 5).trans rfl; have hcz9_6 : w8.cell? ⟨gb150, 6, none⟩ = some (.int .i64 a0_6) := (blk_cell BK150.out 6).trans rfl; have hcz9_7 : w8.cell? ⟨gb150, 7, none⟩ = some (.string a0_7) := (blk_cell BK150.out 7).trans rfl; have hfz9_0 := blk_frozen BK150.out 0; have hfz9_1 := blk_frozen BK150.out 1; have hfz9_2 := blk_frozen BK150.out 2; have hfz9_3 := blk_frozen BK150.out 3; have hfz9_4 := blk_frozen BK150.out 4; have hfz9_5 := blk_frozen BK150.out 5; have hfz9_6 := blk_frozen BK150.out 6; have hfz9_7 := blk_frozen BK150.out 7))
      go_ret2
      exact ⟨by first | rfl | (simp [errW_none, errW_some] <;> rfl) | (simp [*, errW_none, errW_some] <;> rfl), by repeat (first | (with_reducible first | exact HB.out | apply below_alloc | apply pw_below_drewN | apply below_drew1 | refine below_set ?_ GE150.out) | exact HB.out)⟩
    · rw [if_neg c5] at H
      have c5b0 : decide (1500 < (wrap64 ((wrap64 (20 + (a0_7.size : Int))) + (a1.size : Int)))) = false := decide_eq_false c5
      clear c5
      replace H := Option.bind_eq_some_iff.mp H
      obtain ⟨t152, A100, H⟩ := H
      replace H : ((weighbridgeref05_num.f 2 a0_1).bind fun t153 => (if t152.size + t153.size ≤ 9223372036854775807 then ((weighbridgeref05_num.f 4 (wrap64 (a0_2))).bind fun t154 => (if (t152 ++ t153).size + t154.size ≤ 9223372036854775807 then ((weighbridgeref05_num.f 4 (wrap64 (a0_3))).bind fun t155 => (if ((t152 ++ t153) ++ t154).size + t155.size ≤ 9223372036854775807 then ((weighbridgeref05_num.f 2 (wrap64 ((wrap64 (4096 * (wrap64 (Int.tdiv (wrap64 (20 + (a0_7.size : Int))) 4)))) + a0_4))).bind fun t156 => (if (((t152 ++ t153) ++ t154) ++ t155).size + t156.size ≤ 9223372036854775807 then ((weighbridgeref05_num.f 2 a0_5).bind fun t157 => (if ((((t152 ++ t153) ++ t154) ++ t155) ++ t156).size + t157.size ≤ 9223372036854775807 then (if (((((t152 ++ t153) ++ t154) ++ t155) ++ t156) ++ t157).size + 2 ≤ 9223372036854775807 then ((weighbridgeref05_num.f 2 a0_6).bind fun t158 => (if ((((((t152 ++ t153) ++ t154) ++ t155) ++ t156) ++ t157) ++ (⟨#[0, 0]⟩ : ByteArray)).size + t158.size ≤ 9223372036854775807 then (if (((((((t152 ++ t153) ++ t154) ++ t155) ++ t156) ++ t157) ++ (⟨#[0, 0]⟩ : ByteArray)) ++ t158).size + a0_7.size ≤ 9223372036854775807 then (if ((((((((t152 ++ t153) ++ t154) ++ t155) ++ t156) ++ t157) ++ (⟨#[0, 0]⟩ : ByteArray)) ++ t158) ++ a0_7).size + a1.size ≤ 9223372036854775807 then (some (((((((((t152 ++ t153) ++ t154) ++ t155) ++ t156) ++ t157) ++ (⟨#[0, 0]⟩ : ByteArray)) ++ t158) ++ a0_7) ++ a1, 0)) else (none)) else (none)) else (none))) else (none)) else (none))) else (none))) else (none))) else (none))) else (none))) = some (r1, r2) := H
      have A10 := Aside0.mk A100
      clear A100
      replace H := Option.bind_eq_some_iff.mp H
      obtain ⟨t153, A110, H⟩ := H
      replace H : (if t152.size + t153.size ≤ 9223372036854775807 then ((weighbridgeref05_num.f 4 (wrap64 (a0_2))).bind fun t154 => (if (t152 ++ t153).size + t154.size ≤ 9223372036854775807 then ((weighbridgeref05_num.f 4 (wrap64 (a0_3))).bind fun t155 => (if ((t152 ++ t153) ++ t154).size + t155.size ≤ 9223372036854775807 then ((weighbridgeref05_num.f 2 (wrap64 ((wrap64 (4096 * (wrap64 (Int.tdiv (wrap64 (20 + (a0_7.size : Int))) 4)))) + a0_4))).bind fun t156 => (if (((t152 ++ t153) ++ t154) ++ t155).size + t156.size ≤ 9223372036854775807 then ((weighbridgeref05_num.f 2 a0_5).bind fun t157 => (if ((((t152 ++ t153) ++ t154) ++ t155) ++ t156).size + t157.size ≤ 9223372036854775807 then (if (((((t152 ++ t153) ++ t154) ++ t155) ++ t156) ++ t157).size + 2 ≤ 9223372036854775807 then ((weighbridgeref05_num.f 2 a0_6).bind fun t158 => (if ((((((t152 ++ t153) ++ t154) ++ t155) ++ t156) ++ t157) ++ (⟨#[0, 0]⟩ : ByteArray)).size + t158.size ≤ 9223372036854775807 then (if (((((((t152 ++ t153) ++ t154) ++ t155) ++ t156) ++ t157) ++ (⟨#[0, 0]⟩ : ByteArray)) ++ t158).size + a0_7.size ≤ 9223372036854775807 then (if ((((((((t152 ++ t153) ++ t154) ++ t155) ++ t156) ++ t157) ++ (⟨#[0, 0]⟩ : ByteArray)) ++ t158) ++ a0_7).size + a1.size ≤ 9223372036854775807 then (some (((((((((t152 ++ t153) ++ t154) ++ t155) ++ t156) ++ t157) ++ (⟨#[0, 0]⟩ : ByteArray)) ++ t158) ++ a0_7) ++ a1, 0)) else (none)) else (none)) else (none))) else (none)) else (none))) else (none))) else (none))) else (none))) else (none)) = some (r1, r2) := H
      have A11 := Aside0.mk A110
      clear A110
      by_cases c12 : t152.size + t153.size ≤ 9223372036854775807
      · rw [if_pos c12] at H
        have c12b0 := eq_true c12
        have c12b1 : decide (t152.size + t153.size ≤ 9223372036854775807) = true := decide_eq_true c12
        try have c12b2 : (9223372036854775807 < t152.size + t153.size) = False := eq_false (Nat.not_lt.2 c12)
        replace H := Option.bind_eq_some_iff.mp H
        obtain ⟨t154, A130, H⟩ := H
        replace H : (if (t152 ++ t153).size + t154.size ≤ 9223372036854775807 then ((weighbridgeref05_num.f 4 (wrap64 (a0_3))).bind fun t155 => (if ((t152 ++ t153) ++ t154).size + t155.size ≤ 9223372036854775807 then ((weighbridgeref05_num.f 2 (wrap64 ((wrap64 (4096 * (wrap64 (Int.tdiv (wrap64 (20 + (a0_7.size : Int))) 4)))) + a0_4))).bind fun t156 => (if (((t152 ++ t153) ++ t154) ++ t155).size + t156.size ≤ 9223372036854775807 then ((weighbridgeref05_num.f 2 a0_5).bind fun t157 => (if ((((t152 ++ t153) ++ t154) ++ t155) ++ t156).size + t157.size ≤ 9223372036854775807 then (if (((((t152 ++ t153) ++ t154) ++ t155) ++ t156) ++ t157).size + 2 ≤ 9223372036854775807 then ((weighbridgeref05_num.f 2 a0_6).bind fun t158 => (if ((((((t152 ++ t153) ++ t154) ++ t155) ++ t156) ++ t157) ++ (⟨#[0, 0]⟩ : ByteArray)).size + t158.size ≤ 9223372036854775807 then (if (((((((t152 ++ t153) ++ t154) ++ t155) ++ t156) ++ t157) ++ (⟨#[0, 0]⟩ : ByteArray)) ++ t158).size + a0_7.size ≤ 9223372036854775807 then (if ((((((((t152 ++ t153) ++ t154) ++ t155) ++ t156) ++ t157) ++ (⟨#[0, 0]⟩ : ByteArray)) ++ t158) ++ a0_7).size + a1.size ≤ 9223372036854775807 then (some (((((((((t152 ++ t153) ++ t154) ++ t155) ++ t156) ++ t157) ++ (⟨#[0, 0]⟩ : ByteArray)) ++ t158) ++ a0_7) ++ a1, 0)) else (none)) else (none)) else (none))) else (none)) else (none))) else (none))) else (none))) else (none)) = some (r1, r2) := H
        have A13 := Aside0.mk A130
        clear A130
        by_cases c14 : (t152 ++ t153).size + t154.size ≤ 9223372036854775807
        · rw [if_pos c14] at H
          have c14b0 := eq_true c14
          have c14b1 : decide ((t152 ++ t153).size + t154.size ≤ 9223372036854775807) = true := decide_eq_true c14
          try have c14b2 : (9223372036854775807 < (t152 ++ t153).size + t154.size) = False := eq_false (Nat.not_lt.2 c14)
          (try (have c14r := c14; (repeat rw [ByteArray.size_append] at c14r); (repeat rw [ByteArray.size_extract] at c14r); (repeat rw [Nat.sub_zero] at c14r); (repeat rw [Nat.min_self] at c14r); have c14rt := eq_true c14r; have c14ru := eq_false (Nat.not_lt.mpr c14r); clear c14r))
          (try (have c14s := c14; simp [c12b0] at c14s; have c14t := eq_true c14s; have c14u := eq_false (Nat.not_lt.mpr c14s); clear c14s))
          replace H := Option.bind_eq_some_iff.mp H
          obtain ⟨t155, A150, H⟩ := H
          replace H : (if ((t152 ++ t153) ++ t154).size + t155.size ≤ 9223372036854775807 then ((weighbridgeref05_num.f 2 (wrap64 ((wrap64 (4096 * (wrap64 (Int.tdiv (wrap64 (20 + (a0_7.size : Int))) 4)))) + a0_4))).bind fun t156 => (if (((t152 ++ t153) ++ t154) ++ t155).size + t156.size ≤ 9223372036854775807 then ((weighbridgeref05_num.f 2 a0_5).bind fun t157 => (if ((((t152 ++ t153) ++ t154) ++ t155) ++ t156).size + t157.size ≤ 9223372036854775807 then (if (((((t152 ++ t153) ++ t154) ++ t155) ++ t156) ++ t157).size + 2 ≤ 9223372036854775807 then ((weighbridgeref05_num.f 2 a0_6).bind fun t158 => (if ((((((t152 ++ t153) ++ t154) ++ t155) ++ t156) ++ t157) ++ (⟨#[0, 0]⟩ : ByteArray)).size + t158.size ≤ 9223372036854775807 then (if (((((((t152 ++ t153) ++ t154) ++ t155) ++ t156) ++ t157) ++ (⟨#[0, 0]⟩ : ByteArray)) ++ t158).size + a0_7.size ≤ 9223372036854775807 then (if ((((((((t152 ++ t153) ++ t154) ++ t155) ++ t156) ++ t157) ++ (⟨#[0, 0]⟩ : ByteArray)) ++ t158) ++ a0_7).size + a1.size ≤ 9223372036854775807 then (some (((((((((t152 ++ t153) ++ t154) ++ t155) ++ t156) ++ t157) ++ (⟨#[0, 0]⟩ : ByteArray)) ++ t158) ++ a0_7) ++ a1, 0)) else (none)) else (none)) else (none))) else (none)) else (none))) else (none))) else (none)) = some (r1, r2) := H
          have A15 := Aside0.mk A150
          clear A150
          by_cases c16 : ((t152 ++ t153) ++ t154).size + t155.size ≤ 9223372036854775807
          · rw [if_pos c16] at H
            have c16b0 := eq_true c16
            have c16b1 : decide (((t152 ++ t153) ++ t154).size + t155.size ≤ 9223372036854775807) = true := decide_eq_true c16
            try have c16b2 : (9223372036854775807 < ((t152 ++ t153) ++ t154).size + t155.size) = False := eq_false (Nat.not_lt.2 c16)
            (try (have c16r := c16; (repeat rw [ByteArray.size_append] at c16r); (repeat rw [ByteArray.size_extract] at c16r); (repeat rw [Nat.sub_zero] at c16r); (repeat rw [Nat.min_self] at c16r); have c16rt := eq_true c16r; have c16ru := eq_false (Nat.not_lt.mpr c16r); clear c16r))
            (try (have c16s := c16; simp [c12b0, c14b0] at c16s; have c16t := eq_true c16s; have c16u := eq_false (Nat.not_lt.mpr c16s); clear c16s))
            replace H := Option.bind_eq_some_iff.mp H
            obtain ⟨t156, A170, H⟩ := H
            replace H : (if (((t152 ++ t153) ++ t154) ++ t155).size + t156.size ≤ 9223372036854775807 then ((weighbridgeref05_num.f 2 a0_5).bind fun t157 => (if ((((t152 ++ t153) ++ t154) ++ t155) ++ t156).size + t157.size ≤ 9223372036854775807 then (if (((((t152 ++ t153) ++ t154) ++ t155) ++ t156) ++ t157).size + 2 ≤ 9223372036854775807 then ((weighbridgeref05_num.f 2 a0_6).bind fun t158 => (if ((((((t152 ++ t153) ++ t154) ++ t155) ++ t156) ++ t157) ++ (⟨#[0, 0]⟩ : ByteArray)).size + t158.size ≤ 9223372036854775807 then (if (((((((t152 ++ t153) ++ t154) ++ t155) ++ t156) ++ t157) ++ (⟨#[0, 0]⟩ : ByteArray)) ++ t158).size + a0_7.size ≤ 9223372036854775807 then (if ((((((((t152 ++ t153) ++ t154) ++ t155) ++ t156) ++ t157) ++ (⟨#[0, 0]⟩ : ByteArray)) ++ t158) ++ a0_7).size + a1.size ≤ 9223372036854775807 then (some (((((((((t152 ++ t153) ++ t154) ++ t155) ++ t156) ++ t157) ++ (⟨#[0, 0]⟩ : ByteArray)) ++ t158) ++ a0_7) ++ a1, 0)) else (none)) else (none)) else (none))) else (none)) else (none))) else (none)) = some (r1, r2) := H
            have A17 := Aside0.mk A170
            clear A170
            by_cases c18 : (((t152 ++ t153) ++ t154) ++ t155).size + t156.size ≤ 9223372036854775807
            · rw [if_pos c18] at H
              have c18b0 := eq_true c18
              have c18b1 : decide ((((t152 ++ t153) ++ t154) ++ t155).size + t156.size ≤ 9223372036854775807) = true := decide_eq_true c18
              try have c18b2 : (9223372036854775807 < (((t152 ++ t153) ++ t154) ++ t155).size + t156.size) = False := eq_false (Nat.not_lt.2 c18)
              (try (have c18r := c18; (repeat rw [ByteArray.size_append] at c18r); (repeat rw [ByteArray.size_extract] at c18r); (repeat rw [Nat.sub_zero] at c18r); (repeat rw [Nat.min_self] at c18r); have c18rt := eq_true c18r; have c18ru := eq_false (Nat.not_lt.mpr c18r); clear c18r))
              (try (have c18s := c18; simp [c12b0, c14b0, c16b0] at c18s; have c18t := eq_true c18s; have c18u := eq_false (Nat.not_lt.mpr c18s); clear c18s))
              replace H := Option.bind_eq_some_iff.mp H
              obtain ⟨t157, A190, H⟩ := H
              replace H : (if ((((t152 ++ t153) ++ t154) ++ t155) ++ t156).size + t157.size ≤ 9223372036854775807 then (if (((((t152 ++ t153) ++ t154) ++ t155) ++ t156) ++ t157).size + 2 ≤ 9223372036854775807 then ((weighbridgeref05_num.f 2 a0_6).bind fun t158 => (if ((((((t152 ++ t153) ++ t154) ++ t155) ++ t156) ++ t157) ++ (⟨#[0, 0]⟩ : ByteArray)).size + t158.size ≤ 9223372036854775807 then (if (((((((t152 ++ t153) ++ t154) ++ t155) ++ t156) ++ t157) ++ (⟨#[0, 0]⟩ : ByteArray)) ++ t158).size + a0_7.size ≤ 9223372036854775807 then (if ((((((((t152 ++ t153) ++ t154) ++ t155) ++ t156) ++ t157) ++ (⟨#[0, 0]⟩ : ByteArray)) ++ t158) ++ a0_7).size + a1.size ≤ 9223372036854775807 then (some (((((((((t152 ++ t153) ++ t154) ++ t155) ++ t156) ++ t157) ++ (⟨#[0, 0]⟩ : ByteArray)) ++ t158) ++ a0_7) ++ a1, 0)) else (none)) else (none)) else (none))) else (none)) else (none)) = some (r1, r2) := H
              have A19 := Aside0.mk A190
              clear A190
              by_cases c20 : ((((t152 ++ t153) ++ t154) ++ t155) ++ t156).size + t157.size ≤ 9223372036854775807
              · rw [if_pos c20] at H
                have c20b0 := eq_true c20
                have c20b1 : decide (((((t152 ++ t153) ++ t154) ++ t155) ++ t156).size + t157.size ≤ 9223372036854775807) = true := decide_eq_true c20
                try have c20b2 : (9223372036854775807 < ((((t152 ++ t153) ++ t154) ++ t155) ++ t156).size + t157.size) = False := eq_false (Nat.not_lt.2 c20)
                (try (have c20r := c20; (repeat rw [ByteArray.size_append] at c20r); (repeat rw [ByteArray.size_extract] at c20r); (repeat rw [Nat.sub_zero] at c20r); (repeat rw [Nat.min_self] at c20r); have c20rt := eq_true c20r; have c20ru := eq_false (Nat.not_lt.mpr c20r); clear c20r))
                (try (have c20s := c20; simp [c12b0, c14b0, c16b0, c18b0] at c20s; have c20t := eq_true c20s; have c20u := eq_false (Nat.not_lt.mpr c20s); clear c20s))
                by_cases c21 : (((((t152 ++ t153) ++ t154) ++ t155) ++ t156) ++ t157).size + 2 ≤ 9223372036854775807
                · rw [if_pos c21] at H
                  have c21b0 := eq_true c21
                  have c21b1 : decide ((((((t152 ++ t153) ++ t154) ++ t155) ++ t156) ++ t157).size + 2 ≤ 9223372036854775807) = true := decide_eq_true c21
                  try have c21b2 : (9223372036854775807 < (((((t152 ++ t153) ++ t154) ++ t155) ++ t156) ++ t157).size + 2) = False := eq_false (Nat.not_lt.2 c21)
                  (try (have c21r := c21; (repeat rw [ByteArray.size_append] at c21r); (repeat rw [ByteArray.size_extract] at c21r); (repeat rw [Nat.sub_zero] at c21r); (repeat rw [Nat.min_self] at c21r); have c21rt := eq_true c21r; have c21ru := eq_false (Nat.not_lt.mpr c21r); clear c21r))
                  (try (have c21s := c21; simp [c12b0, c14b0, c16b0, c18b0, c20b0] at c21s; have c21t := eq_true c21s; have c21u := eq_false (Nat.not_lt.mpr c21s); clear c21s))
                  replace H := Option.bind_eq_some_iff.mp H
                  obtain ⟨t158, A220, H⟩ := H
                  replace H : (if ((((((t152 ++ t153) ++ t154) ++ t155) ++ t156) ++ t157) ++ (⟨#[0, 0]⟩ : ByteArray)).size + t158.size ≤ 9223372036854775807 then (if (((((((t152 ++ t153) ++ t154) ++ t155) ++ t156) ++ t157) ++ (⟨#[0, 0]⟩ : ByteArray)) ++ t158).size + a0_7.size ≤ 9223372036854775807 then (if ((((((((t152 ++ t153) ++ t154) ++ t155) ++ t156) ++ t157) ++ (⟨#[0, 0]⟩ : ByteArray)) ++ t158) ++ a0_7).size + a1.size ≤ 9223372036854775807 then (some (((((((((t152 ++ t153) ++ t154) ++ t155) ++ t156) ++ t157) ++ (⟨#[0, 0]⟩ : ByteArray)) ++ t158) ++ a0_7) ++ a1, 0)) else (none)) else (none)) else (none)) = some (r1, r2) := H
                  have A22 := Aside0.mk A220
                  clear A220
                  by_cases c23 : ((((((t152 ++ t153) ++ t154) ++ t155) ++ t156) ++ t157) ++ (⟨#[0, 0]⟩ : ByteArray)).size + t158.size ≤ 9223372036854775807
                  · rw [if_pos c23] at H
                    have c23b0 := eq_true c23
                    have c23b1 : decide (((((((t152 ++ t153) ++ t154) ++ t155) ++ t156) ++ t157) ++ (⟨#[0, 0]⟩ : ByteArray)).size + t158.size ≤ 9223372036854775807) = true := decide_eq_true c23
                    try have c23b2 : (9223372036854775807 < ((((((t152 ++ t153) ++ t154) ++ t155) ++ t156) ++ t157) ++ (⟨#[0, 0]⟩ : ByteArray)).size + t158.size) = False := eq_false (Nat.not_lt.2 c23)
                    (try (have c23r := c23; (repeat rw [ByteArray.size_append] at c23r); (repeat rw [ByteArray.size_extract] at c23r); (repeat rw [Nat.sub_zero] at c23r); (repeat rw [Nat.min_self] at c23r); (try rw [show (⟨#[0, 0]⟩ : ByteArray).size = 2 from rfl] at c23r); have c23rt := eq_true c23r; have c23ru := eq_false (Nat.not_lt.mpr c23r); clear c23r))
                    (try (have c23s := c23; simp [c12b0, c14b0, c16b0, c18b0, c20b0, c21b0] at c23s; have c23t := eq_true c23s; have c23u := eq_false (Nat.not_lt.mpr c23s); clear c23s))
                    by_cases c24 : (((((((t152 ++ t153) ++ t154) ++ t155) ++ t156) ++ t157) ++ (⟨#[0, 0]⟩ : ByteArray)) ++ t158).size + a0_7.size ≤ 9223372036854775807
                    · rw [if_pos c24] at H
                      have c24b0 := eq_true c24
                      have c24b1 : decide ((((((((t152 ++ t153) ++ t154) ++ t155) ++ t156) ++ t157) ++ (⟨#[0, 0]⟩ : ByteArray)) ++ t158).size + a0_7.size ≤ 9223372036854775807) = true := decide_eq_true c24
                      try have c24b2 : (9223372036854775807 < (((((((t152 ++ t153) ++ t154) ++ t155) ++ t156) ++ t157) ++ (⟨#[0, 0]⟩ : ByteArray)) ++ t158).size + a0_7.size) = False := eq_false (Nat.not_lt.2 c24)
                      (try (have c24r := c24; (repeat rw [ByteArray.size_append] at c24r); (repeat rw [ByteArray.size_extract] at c24r); (repeat rw [Nat.sub_zero] at c24r); (repeat rw [Nat.min_self] at c24r); (try rw [show (⟨#[0, 0]⟩ : ByteArray).size = 2 from rfl] at c24r); have c24rt := eq_true c24r; have c24ru := eq_false (Nat.not_lt.mpr c24r); clear c24r))
                      (try (have c24s := c24; simp [c12b0, c14b0, c16b0, c18b0, c20b0, c21b0, c23b0] at c24s; have c24t := eq_true c24s; have c24u := eq_false (Nat.not_lt.mpr c24s); clear c24s))
                      by_cases c25 : ((((((((t152 ++ t153) ++ t154) ++ t155) ++ t156) ++ t157) ++ (⟨#[0, 0]⟩ : ByteArray)) ++ t158) ++ a0_7).size + a1.size ≤ 9223372036854775807
                      · rw [if_pos c25] at H
                        have c25b0 := eq_true c25
                        have c25b1 : decide (((((((((t152 ++ t153) ++ t154) ++ t155) ++ t156) ++ t157) ++ (⟨#[0, 0]⟩ : ByteArray)) ++ t158) ++ a0_7).size + a1.size ≤ 9223372036854775807) = true := decide_eq_true c25
                        try have c25b2 : (9223372036854775807 < ((((((((t152 ++ t153) ++ t154) ++ t155) ++ t156) ++ t157) ++ (⟨#[0, 0]⟩ : ByteArray)) ++ t158) ++ a0_7).size + a1.size) = False := eq_false (Nat.not_lt.2 c25)
                        (try (have c25r := c25; (repeat rw [ByteArray.size_append] at c25r); (repeat rw [ByteArray.size_extract] at c25r); (repeat rw [Nat.sub_zero] at c25r); (repeat rw [Nat.min_self] at c25r); (try rw [show (⟨#[0, 0]⟩ : ByteArray).size = 2 from rfl] at c25r); have c25rt := eq_true c25r; have c25ru := eq_false (Nat.not_lt.mpr c25r); clear c25r))
                        (try (have c25s := c25; simp [c12b0, c14b0, c16b0, c18b0, c20b0, c21b0, c23b0, c24b0] at c25s; have c25t := eq_true c25s; have c25u := eq_false (Nat.not_lt.mpr c25s); clear c25s))
                        simp only [Option.some.injEq, Prod.mk.injEq] at H
                        obtain ⟨rfl, rfl⟩ := H
                        go_enter Try.func12, Try.ntmps12
                        try go_wp2_with (first | ((with_reducible refine gate_dst (N := 2) rfl ?_); refine box_event ?hg (N := 2) ?hd (cs := #[.int .i64 a0_0, .int .i64 a0_1, .int .u32 a0_2, .int .u32 a0_3, .int .i64 a0_4, .int .i64 a0_5, .int .i64 a0_6, .string a0_7]) (t := 31) ?hr ?_; (case hd => rfl); (case hg => rfl); (case hr => first | (go_simp; done) | (go_simp; rfl)); intro gb150 hg w26 hbox hb; have n0_ := Aside0.mk (below_step (by repeat (first | (with_reducible first | exact HB.out | apply below_alloc | apply pw_below_drewN | apply below_drew1) | exact HB.out)) hb); have n1_ := Aside0.mk (hbox); have n2_ := Aside0.mk ((by rw [hg]; exact (below_size (by repeat (first | (with_reducible first | exact HB.out | apply below_alloc | apply pw_below_drewN | apply below_drew1) | exact HB.out))) : w.heap.size ≤ gb150)); have n3_ := Aside0.mk ((by rw [hg]; exact (below_size (by repeat (first | (with_reducible first | exact HB.out | apply below_alloc | apply pw_below_drewN | apply below_drew1) | exact HB.out))) : w.heap.size ≤ gb150)); clear HB; have HB := n0_; have BK150 := n1_; have GW150 := n2_; have GE150 := n3_; clear n0_ n1_ n2_ n3_; clear hb hbox hg; have hcz27_0 : w26.cell? ⟨gb150, 0, none⟩ = some (.int .i64 a0_0) := (blk_cell BK150.out 0).trans rfl; have hcz27_1 : w26.cell? ⟨gb150, 1, none⟩ = some (.int .i64 a0_1) := (blk_cell BK150.out 1).trans rfl; have hcz27_2 : w26.cell? ⟨gb150, 2, none⟩ = some (.int .u32 a0_2) := (blk_cell BK150.out 2).trans rfl; have hcz27_3 : w26.cell? ⟨gb150, 3, none⟩ = some (.int .u32 a0_3) := (blk_cell BK150.out 3).trans rfl; have hcz27_4 : w26.cell? ⟨gb150, 4, none⟩ = some (.int .i64 a0_4) := (blk_cell BK150.out 4).trans rfl; have hcz27_5 : w26.cell? ⟨gb150, 5, none⟩ = some (.int .i64 a0_5) := (blk_cell BK150.out 5).trans rfl; have hcz27_6 : w26.cell? ⟨gb150, 6, none⟩ = some (.int .i64 a0_6) := (blk_cell BK150.out 6).trans rfl; have hcz27_7 : w26.cell? ⟨gb150, 7, none⟩ = some (.string a0_7) := (blk_cell BK150.out 7).trans rfl; have hfz27_0 := blk_frozen BK150.out 0; have hfz27_1 := blk_frozen BK150.out 1; have hfz27_2 := blk_frozen BK150.out 2; have hfz27_3 := blk_frozen BK150.out 3; have hfz27_4 := blk_frozen BK150.out 4; have hfz27_5 := blk_frozen BK150.out 5; have hfz27_6 := blk_frozen BK150.out 6; have hfz27_7 := blk_frozen BK150.out 7) | ((with_reducible refine gate_callee (f := 15) rfl ?_); refine goesL_ (some 9) rfl rfl Try.func15 (by kernel_rfl) rfl #[.agg #[.int .i64 a0_0, .int .i64 a0_1, .int .u32 a0_2, .int .u32 a0_3, .int .i64 a0_4, .int .i64 a0_5, .int .i64 a0_6, .string a0_7]] rfl (by (try simp only [List.map_toArray, List.map_cons, List.map_nil]); first | done | rfl | (simp only [List.length_drop, List.length_take]; rfl)) ?_; (with_reducible refine (weighbridgeref05_Right.calls a0_0 a0_1 a0_2 a0_3 a0_4 a0_5 a0_6 a0_7 true _ A3.out).mono ?_); rintro e w28 ⟨rfl, hb⟩; (try clear A3); refine ⟨_, rfl, ?_⟩; have n0_ := Aside0.mk (blk_below (g := gb150) (o := .cells #[.int .i64 a0_0, .int .i64 a0_1, .int .u32 a0_2, .int .u32 a0_3, .int .i64 a0_4, .int .i64 a0_5, .int .i64 a0_6, .string a0_7] 31 (0, 0)) (by (with_reducible repeat (first | refine blk_drewN ?_ _ | refine blk_drew ?_ | refine blk_alloc ?_ _)); exact BK150.out) hb); have n1_ := Aside0.mk (below_step (by repeat (first | (with_reducible first | exact HB.out | apply below_alloc | apply pw_below_drewN | apply below_drew1 | refine below_set ?_ GE150.out) | exact HB.out)) hb); clear BK150; clear HB; have BK150 := n0_; have HB := n1_; clear n0_ n1_; (try clear hb); (try clear hb2); (try clear hk); (try clear hi); have hcz29_0 : w28.cell? ⟨gb150, 0, none⟩ = some (.int .i64 a0_0) := (blk_cell BK150.out 0).trans rfl; have hcz29_1 : w28.cell? ⟨gb150, 1, none⟩ = some (.int .i64 a0_1) := (blk_cell BK150.out 1).trans rfl; have hcz29_2 : w28.cell? ⟨gb150, 2, none⟩ = some (.int .u32 a0_2) := (blk_cell BK150.out 2).trans rfl; have hcz29_3 : w28.cell? ⟨gb150, 3, none⟩ = some (.int .u32 a0_3) := (blk_cell BK150.out 3).trans rfl; have hcz29_4 : w28.cell? ⟨gb150, 4, none⟩ = some (.int .i64 a0_4) := (blk_cell BK150.out 4).trans rfl; have hcz29_5 : w28.cell? ⟨gb150, 5, none⟩ = some (.int .i64 a0_5) := (blk_cell BK150.out 5).trans rfl; have hcz29_6 : w28.cell? ⟨gb150, 6, none⟩ = some (.int .i64 a0_6) := (blk_cell BK150.out 6).trans rfl; have hcz29_7 : w28.cell? ⟨gb150, 7, none⟩ = some (.string a0_7) := (blk_cell BK150.out 7).trans rfl; have hfz29_0 := blk_frozen BK150.out 0; have hfz29_1 := blk_frozen BK150.out 1; have hfz29_2 := blk_frozen BK150.out 2; have hfz29_3 := blk_frozen BK150.out 3; have hfz29_4 := blk_frozen BK150.out 4; have hfz29_5 := blk_frozen BK150.out 5; have hfz29_6 := blk_frozen BK150.out 6; have hfz29_7 := blk_frozen BK150.out 7))
                        have n0_ := Aside0.mk (blk_drew BK150.out)
                        have n1_ := Aside0.mk (below_drew1 HB.out)
                        clear BK150
                        clear HB
                        have BK150 := n0_
                        have HB := n1_
                        clear n0_ n1_
                        refine start_ (n := 41) (S := fun w' => w'.cell? ⟨gb150, 0, none⟩ = some (.int .i64 a0_0) ∧ w'.cell? ⟨gb150, 1, none⟩ = some (.int .i64 a0_1) ∧ w'.cell? ⟨gb150, 2, none⟩ = some (.int .u32 a0_2) ∧ w'.cell? ⟨gb150, 3, none⟩ = some (.int .u32 a0_3) ∧ w'.cell? ⟨gb150, 4, none⟩ = some (.int .i64 a0_4) ∧ w'.cell? ⟨gb150, 5, none⟩ = some (.int .i64 a0_5) ∧ w'.cell? ⟨gb150, 6, none⟩ = some (.int .i64 a0_6) ∧ w'.cell? ⟨gb150, 7, none⟩ = some (.string a0_7)) (ds := []) #[false, false, false, false, false, false, false, false, false, false, false, false, false, false, false, false, false, false, false, false, false, false, false, false, false, false, false, false, false, false, false, false, false, false, false, false, false, false, false, false, false] (by kernel_rfl) rfl rfl ⟨(blk_cell BK150.out 0).trans rfl, (blk_cell BK150.out 1).trans rfl, (blk_cell BK150.out 2).trans rfl, (blk_cell BK150.out 3).trans rfl, (blk_cell BK150.out 4).trans rfl, (blk_cell BK150.out 5).trans rfl, (blk_cell BK150.out 6).trans rfl, (blk_cell BK150.out 7).trans rfl⟩ (fun hHeld => ?_); refine with_tabW weighbridgeref05_Build_p.tab7 weighbridgeref05_Build_p.bits7 (fun HT_ HW_ => ?_)
                        generalize w28.drew = w30 at BK150 HB hHeld ⊢
                        refine pure_ (i := 0) (N := some 21) (v := ?_) (a' := ?_) #[true, false, false, false, false, false, false, false, false, false, false, false, false, false, false, false, false, false, false, false, false, false, false, false, false, false, false, false, false, false, false, false, false, false, false, false, false, false, false, false, false] rfl rfl (any_of HT_.out (by kernel_rfl)) (fun _ _ _ h => h) (Or.inl ⟨by rfl, ?_⟩) ?_ ?_
                        rotate_left
                        · intro w'
                          go_simp
                          with_reducible rfl
                        rotate_left
                        · simp only [Act.put, List.setIfInBounds_toArray, List.set_cons_zero, List.set_cons_succ, i64_w, i32_w]
                          rfl
                        refine pure_ (i := 3) (N := some 24) (v := ?_) (a' := ?_) #[true, false, false, true, false, false, false, false, false, false, false, false, false, false, false, false, false, false, false, false, false, false, false, false, false, false, false, false, false, false, false, false, false, false, false, false, false, false, false, false, false] rfl rfl (any_of HT_.out (by kernel_rfl)) (fun _ _ _ h => h) (Or.inl ⟨by rfl, ?_⟩) ?_ ?_
                        rotate_left
                        · intro w'
                          go_simp
                          with_reducible rfl
                        rotate_left
                        · simp only [Act.put, List.setIfInBounds_toArray, List.set_cons_zero, List.set_cons_succ, i64_w, i32_w]
                          rfl
                        refine pure_ (i := 7) (N := some 28) (v := ?_) (a' := ?_) #[true, false, false, true, false, false, false, true, false, false, false, false, false, false, false, false, false, false, false, false, false, false, false, false, false, false, false, false, false, false, false, false, false, false, false, false, false, false, false, false, false] rfl rfl (any_of HT_.out (by kernel_rfl)) (fun _ _ _ h => h) (Or.inl ⟨by rfl, ?_⟩) ?_ ?_
                        rotate_left
                        · intro w'
                          go_simp
                          with_reducible rfl
                        rotate_left
                        · simp only [Act.put, List.setIfInBounds_toArray, List.set_cons_zero, List.set_cons_succ, i64_w, i32_w]
                          rfl
                        refine pure_ (i := 12) (N := some 33) (v := ?_) (a' := ?_) #[true, false, false, true, false, false, false, true, false, false, false, false, true, false, false, false, false, false, false, false, false, false, false, false, false, false, false, false, false, false, false, false, false, false, false, false, false, false, false, false, false] rfl rfl (any_of HT_.out (by kernel_rfl)) (fun _ _ _ h => h) (Or.inl ⟨by rfl, ?_⟩) ?_ ?_
                        rotate_left
                        · intro w'
                          go_simp
                          with_reducible rfl
                        rotate_left
                        · simp only [Act.put, List.setIfInBounds_toArray, List.set_cons_zero, List.set_cons_succ, i64_w, i32_w]
                          rfl
                        refine pure_ (i := 17) (N := some 38) (v := ?_) (a' := ?_) #[true, false, false, true, false, false, false, true, false, false, false, false, true, false, false, false, false, true, false, false, false, false, false, false, false, false, false, false, false, false, false, false, false, false, false, false, false, false, false, false, false] rfl rfl (any_of HT_.out (by kernel_rfl)) (fun _ _ _ h => h) (Or.inl ⟨by rfl, ?_⟩) ?_ ?_
                        rotate_left
                        · intro w'
                          go_simp
                          with_reducible rfl
                        rotate_left
                        · simp only [Act.put, List.setIfInBounds_toArray, List.set_cons_zero, List.set_cons_succ, i64_w, i32_w]
                          rfl
                        refine pure_ (i := 18) (N := some 39) (v := ?_) (a' := ?_) #[true, false, false, true, false, false, false, true, false, false, false, false, true, false, false, false, false, true, true, false, false, false, false, false, false, false, false, false, false, false, false, false, false, false, false, false, false, false, false, false, false] rfl rfl (any_of HT_.out (by kernel_rfl)) (fun _ _ _ h => h) (Or.inl ⟨by rfl, ?_⟩) ?_ ?_
                        rotate_left
                        · intro w'
                          go_simp
                          with_reducible rfl
                        rotate_left
                        · simp only [Act.put, List.setIfInBounds_toArray, List.set_cons_zero, List.set_cons_succ, i64_w, i32_w]
                          rfl
                        refine pure_ (i := 19) (N := some 40) (v := ?_) (a' := ?_) #[true, false, false, true, false, false, false, true, false, false, false, false, true, false, false, false, false, true, true, true, false, false, false, false, false, false, false, false, false, false, false, false, false, false, false, false, false, false, false, false, false] rfl rfl (any_of HT_.out (by kernel_rfl)) (fun _ _ _ h => h) (Or.inl ⟨by rfl, ?_⟩) ?_ ?_
                        rotate_left
                        · intro w'
                          go_simp
                          with_reducible rfl
                        rotate_left
                        · simp only [Act.put, List.setIfInBounds_toArray, List.set_cons_zero, List.set_cons_succ, i64_w, i32_w]
                          rfl
                        refine pure_ (i := 20) (N := some 41) (v := ?_) (a' := ?_) #[true, false, false, true, false, false, false, true, false, false, false, false, true, false, false, false, false, true, true, true, true, false, false, false, false, false, false, false, false, false, false, false, false, false, false, false, false, false, false, false, false] rfl rfl (any_of HT_.out (by kernel_rfl)) (fun _ _ _ h => h) (Or.inl ⟨by rfl, ?_⟩) ?_ ?_
                        rotate_left
                        · intro w'
                          go_simp
                          with_reducible rfl
                        rotate_left
                        · simp only [Act.put, List.setIfInBounds_toArray, List.set_cons_zero, List.set_cons_succ, i64_w, i32_w]
                          rfl
                        refine pure_ (i := 25) (N := some 46) (v := ?_) (a' := ?_) #[true, false, false, true, false, false, false, true, false, false, false, false, true, false, false, false, false, true, true, true, true, false, false, false, false, true, false, false, false, false, false, false, false, false, false, false, false, false, false, false, false] rfl rfl (any_of HT_.out (by kernel_rfl)) (fun _ _ _ h => h) (Or.inl ⟨by rfl, ?_⟩) ?_ ?_
                        rotate_left
                        · intro w'
                          go_simp
                          with_reducible rfl
                        rotate_left
                        · simp only [Act.put, List.setIfInBounds_toArray, List.set_cons_zero, List.set_cons_succ, i64_w, i32_w]
                          rfl
                        refine pure_ (i := 30) (N := some 51) (v := ?_) (a' := ?_) #[true, false, false, true, false, false, false, true, false, false, false, false, true, false, false, false, false, true, true, true, true, false, false, false, false, true, false, false, false, false, true, false, false, false, false, false, false, false, false, false, false] rfl rfl (any_of HT_.out (by kernel_rfl)) (fun _ _ _ h => h) (Or.inl ⟨by rfl, ?_⟩) ?_ ?_
                        rotate_left
                        · intro w'
                          go_simp
                          with_reducible rfl
                        rotate_left
                        · simp only [Act.put, List.setIfInBounds_toArray, List.set_cons_zero, List.set_cons_succ, i64_w, i32_w]
                          rfl
                        refine pure_ (i := 34) (N := some 55) (v := ?_) (a' := ?_) #[true, false, false, true, false, false, false, true, false, false, false, false, true, false, false, false, false, true, true, true, true, false, false, false, false, true, false, false, false, false, true, false, false, false, true, false, false, false, false, false, false] rfl rfl (any_of HT_.out (by kernel_rfl)) (fun _ _ _ h => h) (Or.inl ⟨by rfl, ?_⟩) ?_ ?_
                        rotate_left
                        · intro w'
                          go_simp
                          with_reducible rfl
                        rotate_left
                        · simp only [Act.put, List.setIfInBounds_toArray, List.set_cons_zero, List.set_cons_succ, i64_w, i32_w]
                          rfl
                        refine pure_ (i := 37) (N := some 58) (v := ?_) (a' := ?_) #[true, false, false, true, false, false, false, true, false, false, false, false, true, false, false, false, false, true, true, true, true, false, false, false, false, true, false, false, false, false, true, false, false, false, true, false, false, true, false, false, false] rfl rfl (any_of HT_.out (by kernel_rfl)) (fun _ _ _ h => h) (Or.inl ⟨by rfl, ?_⟩) ?_ ?_
                        rotate_left
                        · intro w'
                          go_simp
                          with_reducible rfl
                        rotate_left
                        · simp only [Act.put, List.setIfInBounds_toArray, List.set_cons_zero, List.set_cons_succ, i64_w, i32_w]
                          rfl
                        refine take_ (i := 1) (N := some 22) (v := ?_) (a' := ?_) #[true, true, false, true, false, false, false, true, false, false, false, false, true, false, false, false, false, true, true, true, true, false, false, false, false, true, false, false, false, false, true, false, false, false, true, false, false, true, false, false, false] rfl rfl (take_ofW HT_.out HW_.out (by kernel_rfl)) (fun _ _ _ h => h) (Or.inl ⟨by rfl, ?_⟩) hHeld ?_ ?_
                        rotate_left
                        · rintro w' ⟨s0, s1, s2, s3, s4, s5, s6, s7⟩
                          go_simp
                          with_reducible rfl
                        rotate_left
                        · simp only [Act.put, List.setIfInBounds_toArray, List.set_cons_zero, List.set_cons_succ, i64_w, i32_w]
                          rfl
                        refine take_ (i := 4) (N := some 25) (v := ?_) (a' := ?_) #[true, true, false, true, true, false, false, true, false, false, false, false, true, false, false, false, false, true, true, true, true, false, false, false, false, true, false, false, false, false, true, false, false, false, true, false, false, true, false, false, false] rfl rfl (take_ofW HT_.out HW_.out (by kernel_rfl)) (fun _ _ _ h => h) (Or.inl ⟨by rfl, ?_⟩) hHeld ?_ ?_
                        rotate_left
                        · rintro w' ⟨s0, s1, s2, s3, s4, s5, s6, s7⟩
                          go_simp
                          with_reducible rfl
                        rotate_left
                        · simp only [Act.put, List.setIfInBounds_toArray, List.set_cons_zero, List.set_cons_succ, i64_w, i32_w]
                          rfl
                        refine take_ (i := 8) (N := some 29) (v := ?_) (a' := ?_) #[true, true, false, true, true, false, false, true, true, false, false, false, true, false, false, false, false, true, true, true, true, false, false, false, false, true, false, false, false, false, true, false, false, false, true, false, false, true, false, false, false] rfl rfl (take_ofW HT_.out HW_.out (by kernel_rfl)) (fun _ _ _ h => h) (Or.inl ⟨by rfl, ?_⟩) hHeld ?_ ?_
                        rotate_left
                        · rintro w' ⟨s0, s1, s2, s3, s4, s5, s6, s7⟩
                          go_simp
                          with_reducible rfl
                        rotate_left
                        · simp only [Act.put, List.setIfInBounds_toArray, List.set_cons_zero, List.set_cons_succ, i64_w, i32_w]
                          rfl
                        refine pure_ (i := 9) (N := some 30) (v := ?_) (a' := ?_) #[true, true, false, true, true, false, false, true, true, true, false, false, true, false, false, false, false, true, true, true, true, false, false, false, false, true, false, false, false, false, true, false, false, false, true, false, false, true, false, false, false] rfl rfl (any_of HT_.out (by kernel_rfl)) (fun _ _ _ h => h) (Or.inl ⟨by rfl, ?_⟩) ?_ ?_
                        rotate_left
                        · intro w'
                          go_simp
                          with_reducible rfl
                        rotate_left
                        · simp only [Act.put, List.setIfInBounds_toArray, List.set_cons_zero, List.set_cons_succ, i64_w, i32_w]
                          rfl
                        refine take_ (i := 13) (N := some 34) (v := ?_) (a' := ?_) #[true, true, false, true, true, false, false, true, true, true, false, false, true, true, false, false, false, true, true, true, true, false, false, false, false, true, false, false, false, false, true, false, false, false, true, false, false, true, false, false, false] rfl rfl (take_ofW HT_.out HW_.out (by kernel_rfl)) (fun _ _ _ h => h) (Or.inl ⟨by rfl, ?_⟩) hHeld ?_ ?_
                        rotate_left
                        · rintro w' ⟨s0, s1, s2, s3, s4, s5, s6, s7⟩
                          go_simp
                          with_reducible rfl
                        rotate_left
                        · simp only [Act.put, List.setIfInBounds_toArray, List.set_cons_zero, List.set_cons_succ, i64_w, i32_w]
                          rfl
                        refine pure_ (i := 14) (N := some 35) (v := ?_) (a' := ?_) #[true, true, false, true, true, false, false, true, true, true, false, false, true, true, true, false, false, true, true, true, true, false, false, false, false, true, false, false, false, false, true, false, false, false, true, false, false, true, false, false, false] rfl rfl (any_of HT_.out (by kernel_rfl)) (fun _ _ _ h => h) (Or.inl ⟨by rfl, ?_⟩) ?_ ?_
                        rotate_left
                        · intro w'
                          go_simp
                          with_reducible rfl
                        rotate_left
                        · simp only [Act.put, List.setIfInBounds_toArray, List.set_cons_zero, List.set_cons_succ, i64_w, i32_w]
                          rfl
                        refine take_ (i := 21) (N := some 42) (v := ?_) (a' := ?_) #[true, true, false, true, true, false, false, true, true, true, false, false, true, true, true, false, false, true, true, true, true, true, false, false, false, true, false, false, false, false, true, false, false, false, true, false, false, true, false, false, false] rfl rfl (take_ofW HT_.out HW_.out (by kernel_rfl)) (fun _ _ _ h => h) (Or.inl ⟨by rfl, ?_⟩) hHeld ?_ ?_
                        rotate_left
                        · rintro w' ⟨s0, s1, s2, s3, s4, s5, s6, s7⟩
                          go_simp
                          with_reducible rfl
                        rotate_left
                        · simp only [Act.put, List.setIfInBounds_toArray, List.set_cons_zero, List.set_cons_succ, i64_w, i32_w]
                          rfl
                        refine pure_ (i := 22) (N := some 43) (v := ?_) (a' := ?_) #[true, true, false, true, true, false, false, true, true, true, false, false, true, true, true, false, false, true, true, true, true, true, true, false, false, true, false, false, false, false, true, false, false, false, true, false, false, true, false, false, false] rfl rfl (any_of HT_.out (by kernel_rfl)) (fun _ _ _ h => h) (Or.inl ⟨by rfl, ?_⟩) ?_ ?_
                        rotate_left
                        · intro w'
                          go_simp
                          with_reducible rfl
                        rotate_left
                        · simp only [Act.put, List.setIfInBounds_toArray, List.set_cons_zero, List.set_cons_succ, i64_w, i32_w]
                          rfl
                        refine take_ (i := 26) (N := some 47) (v := ?_) (a' := ?_) #[true, true, false, true, true, false, false, true, true, true, false, false, true, true, true, false, false, true, true, true, true, true, true, false, false, true, true, false, false, false, true, false, false, false, true, false, false, true, false, false, false] rfl rfl (take_ofW HT_.out HW_.out (by kernel_rfl)) (fun _ _ _ h => h) (Or.inl ⟨by rfl, ?_⟩) hHeld ?_ ?_
                        rotate_left
                        · rintro w' ⟨s0, s1, s2, s3, s4, s5, s6, s7⟩
                          go_simp
                          with_reducible rfl
                        rotate_left
                        · simp only [Act.put, List.setIfInBounds_toArray, List.set_cons_zero, List.set_cons_succ, i64_w, i32_w]
                          rfl
                        refine take_ (i := 31) (N := some 52) (v := ?_) (a' := ?_) #[true, true, false, true, true, false, false, true, true, true, false, false, true, true, true, false, false, true, true, true, true, true, true, false, false, true, true, false, false, false, true, true, false, false, true, false, false, true, false, false, false] rfl rfl (take_ofW HT_.out HW_.out (by kernel_rfl)) (fun _ _ _ h => h) (Or.inl ⟨by rfl, ?_⟩) hHeld ?_ ?_
                        rotate_left
                        · rintro w' ⟨s0, s1, s2, s3, s4, s5, s6, s7⟩
                          go_simp
                          with_reducible rfl
                        rotate_left
                        · simp only [Act.put, List.setIfInBounds_toArray, List.set_cons_zero, List.set_cons_succ, i64_w, i32_w]
                          rfl
                        refine take_ (i := 35) (N := some 56) (v := ?_) (a' := ?_) #[true, true, false, true, true, false, false, true, true, true, false, false, true, true, true, false, false, true, true, true, true, true, true, false, false, true, true, false, false, false, true, true, false, false, true, true, false, true, false, false, false] rfl rfl (take_ofW HT_.out HW_.out (by kernel_rfl)) (fun _ _ _ h => h) (Or.inl ⟨by rfl, ?_⟩) hHeld ?_ ?_
                        rotate_left
                        · rintro w' ⟨s0, s1, s2, s3, s4, s5, s6, s7⟩
                          go_simp
                          with_reducible rfl
                        rotate_left
                        · simp only [Act.put, List.setIfInBounds_toArray, List.set_cons_zero, List.set_cons_succ, i64_w, i32_w]
                          rfl
                        refine one_ (i := 2) (N := some 23) #[true, true, true, true, true, false, false, true, true, true, false, false, true, true, true, false, false, true, true, true, true, true, true, false, false, true, true, false, false, false, true, true, false, false, true, true, false, true, false, false, false] rfl rfl (one_of HT_.out (by kernel_rfl)) (by decide) (fun K hK => ?_)
                        refine goes_ Try.func23 (by kernel_rfl) rfl #[.int .i64 2, .int .i64 a0_0] (by rfl) rfl rfl (by (try simp only [List.map_toArray, List.map_cons, List.map_nil]); first | done | rfl | (simp only [List.length_drop, List.length_take]; rfl)) ?_
                        with_reducible refine (weighbridgeref05_num.calls 2 a0_0 t152 _ A10.out).mono ?_
                        rintro e w31 ⟨rfl, hb⟩
                        refine ⟨_, rfl, ?_⟩
                        have n0_ := Aside0.mk (blk_below (g := gb150) (o := .cells #[.int .i64 a0_0, .int .i64 a0_1, .int .u32 a0_2, .int .u32 a0_3, .int .i64 a0_4, .int .i64 a0_5, .int .i64 a0_6, .string a0_7] 31 (0, 0)) (by (with_reducible repeat (first | refine blk_drewN ?_ _ | refine blk_drew ?_ | refine blk_alloc ?_ _)); exact BK150.out) hb)
                        have n1_ := Aside0.mk (below_step (by repeat (first | (with_reducible first | exact HB.out | apply below_alloc | apply pw_below_drewN | apply below_drew1 | refine below_set ?_ GE150.out) | exact HB.out)) hb)
                        clear BK150
                        clear HB
                        have BK150 := n0_
                        have HB := n1_
                        clear n0_ n1_
                        (try clear hb)
                        (try clear hb2)
                        (try clear hk)
                        (try clear hi)
                        refine hK.out _ _ ⟨(blk_cell BK150.out 0).trans rfl, (blk_cell BK150.out 1).trans rfl, (blk_cell BK150.out 2).trans rfl, (blk_cell BK150.out 3).trans rfl, (blk_cell BK150.out 4).trans rfl, (blk_cell BK150.out 5).trans rfl, (blk_cell BK150.out 6).trans rfl, (blk_cell BK150.out 7).trans rfl⟩ (fun hHeld => ?_)
                        clear hK K
                        refine norm_ (a' := ?_) ?_ ?_
                        rotate_left
                        · show Act.put _ (some 23) _ = _
                          simp only [Act.put, List.setIfInBounds_toArray, List.set_cons_zero, List.set_cons_succ, i64_w, i32_w]
                          rfl
                        refine one_ (i := 5) (N := some 26) #[true, true, true, true, true, true, false, true, true, true, false, false, true, true, true, false, false, true, true, true, true, true, true, false, false, true, true, false, false, false, true, true, false, false, true, true, false, true, false, false, false] rfl rfl (one_of HT_.out (by kernel_rfl)) (by decide) (fun K hK => ?_)
                        refine goes_ Try.func23 (by kernel_rfl) rfl #[.int .i64 2, .int .i64 a0_1] (by rfl) rfl rfl (by (try simp only [List.map_toArray, List.map_cons, List.map_nil]); first | done | rfl | (simp only [List.length_drop, List.length_take]; rfl)) ?_
                        with_reducible refine (weighbridgeref05_num.calls 2 a0_1 t153 _ A11.out).mono ?_
                        rintro e w32 ⟨rfl, hb⟩
                        refine ⟨_, rfl, ?_⟩
                        have n0_ := Aside0.mk (blk_below (g := gb150) (o := .cells #[.int .i64 a0_0, .int .i64 a0_1, .int .u32 a0_2, .int .u32 a0_3, .int .i64 a0_4, .int .i64 a0_5, .int .i64 a0_6, .string a0_7] 31 (0, 0)) (by (with_reducible repeat (first | refine blk_drewN ?_ _ | refine blk_drew ?_ | refine blk_alloc ?_ _)); exact BK150.out) hb)
                        have n1_ := Aside0.mk (below_step (by repeat (first | (with_reducible first | exact HB.out | apply below_alloc | apply pw_below_drewN | apply below_drew1 | refine below_set ?_ GE150.out) | exact HB.out)) hb)
                        clear BK150
                        clear HB
                        have BK150 := n0_
                        have HB := n1_
                        clear n0_ n1_
                        (try clear hb)
                        (try clear hb2)
                        (try clear hk)
                        (try clear hi)
                        refine hK.out _ _ ⟨(blk_cell BK150.out 0).trans rfl, (blk_cell BK150.out 1).trans rfl, (blk_cell BK150.out 2).trans rfl, (blk_cell BK150.out 3).trans rfl, (blk_cell BK150.out 4).trans rfl, (blk_cell BK150.out 5).trans rfl, (blk_cell BK150.out 6).trans rfl, (blk_cell BK150.out 7).trans rfl⟩ (fun hHeld => ?_)
                        clear hK K
                        refine norm_ (a' := ?_) ?_ ?_
                        rotate_left
                        · show Act.put _ (some 26) _ = _
                          simp only [Act.put, List.setIfInBounds_toArray, List.set_cons_zero, List.set_cons_succ, i64_w, i32_w]
                          rfl
                        refine pure_ (i := 6) (N := some 27) (v := ?_) (a' := ?_) #[true, true, true, true, true, true, true, true, true, true, false, false, true, true, true, false, false, true, true, true, true, true, true, false, false, true, true, false, false, false, true, true, false, false, true, true, false, true, false, false, false] rfl rfl (any_of HT_.out (by kernel_rfl)) (fun _ _ _ h => h) (Or.inl ⟨by rfl, ?_⟩) ?_ ?_
                        rotate_left
                        · intro w'
                          go_simp
                          with_reducible rfl
                        rotate_left
                        · simp only [Act.put, List.setIfInBounds_toArray, List.set_cons_zero, List.set_cons_succ, i64_w, i32_w]
                          rfl
                        refine one_ (i := 10) (N := some 31) #[true, true, true, true, true, true, true, true, true, true, true, false, true, true, true, false, false, true, true, true, true, true, true, false, false, true, true, false, false, false, true, true, false, false, true, true, false, true, false, false, false] rfl rfl (one_of HT_.out (by kernel_rfl)) (by decide) (fun K hK => ?_)
                        refine goes_ Try.func23 (by kernel_rfl) rfl #[.int .i64 4, .int .i64 (wrap64 (a0_2))] (by rfl) rfl rfl (by (try simp only [List.map_toArray, List.map_cons, List.map_nil]); first | done | rfl | (simp only [List.length_drop, List.length_take]; rfl)) ?_
                        with_reducible refine (weighbridgeref05_num.calls 4 (wrap64 (a0_2)) t154 _ A13.out).mono ?_
                        rintro e w33 ⟨rfl, hb⟩
                        refine ⟨_, rfl, ?_⟩
                        have n0_ := Aside0.mk (blk_below (g := gb150) (o := .cells #[.int .i64 a0_0, .int .i64 a0_1, .int .u32 a0_2, .int .u32 a0_3, .int .i64 a0_4, .int .i64 a0_5, .int .i64 a0_6, .string a0_7] 31 (0, 0)) (by (with_reducible repeat (first | refine blk_drewN ?_ _ | refine blk_drew ?_ | refine blk_alloc ?_ _)); exact BK150.out) hb)
                        have n1_ := Aside0.mk (below_step (by repeat (first | (with_reducible first | exact HB.out | apply below_alloc | apply pw_below_drewN | apply below_drew1 | refine below_set ?_ GE150.out) | exact HB.out)) hb)
                        clear BK150
                        clear HB
                        have BK150 := n0_
                        have HB := n1_
                        clear n0_ n1_
                        (try clear hb)
                        (try clear hb2)
                        (try clear hk)
                        (try clear hi)
                        refine hK.out _ _ ⟨(blk_cell BK150.out 0).trans rfl, (blk_cell BK150.out 1).trans rfl, (blk_cell BK150.out 2).trans rfl, (blk_cell BK150.out 3).trans rfl, (blk_cell BK150.out 4).trans rfl, (blk_cell BK150.out 5).trans rfl, (blk_cell BK150.out 6).trans rfl, (blk_cell BK150.out 7).trans rfl⟩ (fun hHeld => ?_)
                        clear hK K
                        refine norm_ (a' := ?_) ?_ ?_
                        rotate_left
                        · show Act.put _ (some 31) _ = _
                          simp only [Act.put, List.setIfInBounds_toArray, List.set_cons_zero, List.set_cons_succ, i64_w, i32_w]
                          rfl
                        refine pure_ (i := 11) (N := some 32) (v := ?_) (a' := ?_) #[true, true, true, true, true, true, true, true, true, true, true, true, true, true, true, false, false, true, true, true, true, true, true, false, false, true, true, false, false, false, true, true, false, false, true, true, false, true, false, false, false] rfl rfl (any_of HT_.out (by kernel_rfl)) (fun _ _ _ h => h) (Or.inl ⟨by rfl, ?_⟩) ?_ ?_
                        rotate_left
                        · intro w'
                          go_simp
                          with_reducible rfl
                        rotate_left
                        · simp only [Act.put, List.setIfInBounds_toArray, List.set_cons_zero, List.set_cons_succ, i64_w, i32_w]
                          rfl
                        refine one_ (i := 15) (N := some 36) #[true, true, true, true, true, true, true, true, true, true, true, true, true, true, true, true, false, true, true, true, true, true, true, false, false, true, true, false, false, false, true, true, false, false, true, true, false, true, false, false, false] rfl rfl (one_of HT_.out (by kernel_rfl)) (by decide) (fun K hK => ?_)
                        refine goes_ Try.func23 (by kernel_rfl) rfl #[.int .i64 4, .int .i64 (wrap64 (a0_3))] (by rfl) rfl rfl (by (try simp only [List.map_toArray, List.map_cons, List.map_nil]); first | done | rfl | (simp only [List.length_drop, List.length_take]; rfl)) ?_
                        with_reducible refine (weighbridgeref05_num.calls 4 (wrap64 (a0_3)) t155 _ A15.out).mono ?_
                        rintro e w34 ⟨rfl, hb⟩
                        refine ⟨_, rfl, ?_⟩
                        have n0_ := Aside0.mk (blk_below (g := gb150) (o := .cells #[.int .i64 a0_0, .int .i64 a0_1, .int .u32 a0_2, .int .u32 a0_3, .int .i64 a0_4, .int .i64 a0_5, .int .i64 a0_6, .string a0_7] 31 (0, 0)) (by (with_reducible repeat (first | refine blk_drewN ?_ _ | refine blk_drew ?_ | refine blk_alloc ?_ _)); exact BK150.out) hb)
                        have n1_ := Aside0.mk (below_step (by repeat (first | (with_reducible first | exact HB.out | apply below_alloc | apply pw_below_drewN | apply below_drew1 | refine below_set ?_ GE150.out) | exact HB.out)) hb)
                        clear BK150
                        clear HB
                        have BK150 := n0_
                        have HB := n1_
                        clear n0_ n1_
                        (try clear hb)
                        (try clear hb2)
                        (try clear hk)
                        (try clear hi)
                        refine hK.out _ _ ⟨(blk_cell BK150.out 0).trans rfl, (blk_cell BK150.out 1).trans rfl, (blk_cell BK150.out 2).trans rfl, (blk_cell BK150.out 3).trans rfl, (blk_cell BK150.out 4).trans rfl, (blk_cell BK150.out 5).trans rfl, (blk_cell BK150.out 6).trans rfl, (blk_cell BK150.out 7).trans rfl⟩ (fun hHeld => ?_)
                        clear hK K
                        refine norm_ (a' := ?_) ?_ ?_
                        rotate_left
                        · show Act.put _ (some 36) _ = _
                          simp only [Act.put, List.setIfInBounds_toArray, List.set_cons_zero, List.set_cons_succ, i64_w, i32_w]
                          rfl
                        refine pure_ (i := 16) (N := some 37) (v := ?_) (a' := ?_) #[true, true, true, true, true, true, true, true, true, true, true, true, true, true, true, true, true, true, true, true, true, true, true, false, false, true, true, false, false, false, true, true, false, false, true, true, false, true, false, false, false] rfl rfl (any_of HT_.out (by kernel_rfl)) (fun _ _ _ h => h) (Or.inl ⟨by rfl, ?_⟩) ?_ ?_
                        rotate_left
                        · intro w'
                          go_simp
                          with_reducible rfl
                        rotate_left
                        · simp only [Act.put, List.setIfInBounds_toArray, List.set_cons_zero, List.set_cons_succ, i64_w, i32_w]
                          rfl
                        refine one_ (i := 23) (N := some 44) #[true, true, true, true, true, true, true, true, true, true, true, true, true, true, true, true, true, true, true, true, true, true, true, true, false, true, true, false, false, false, true, true, false, false, true, true, false, true, false, false, false] rfl rfl (one_of HT_.out (by kernel_rfl)) (by decide) (fun K hK => ?_)
                        refine goes_ Try.func23 (by kernel_rfl) rfl #[.int .i64 2, .int .i64 (wrap64 ((wrap64 (4096 * (wrap64 (Int.tdiv (wrap64 (20 + (a0_7.size : Int))) 4)))) + a0_4))] (by rfl) rfl rfl (by (try simp only [List.map_toArray, List.map_cons, List.map_nil]); first | done | rfl | (simp only [List.length_drop, List.length_take]; rfl)) ?_
                        with_reducible refine (weighbridgeref05_num.calls 2 (wrap64 ((wrap64 (4096 * (wrap64 (Int.tdiv (wrap64 (20 + (a0_7.size : Int))) 4)))) + a0_4)) t156 _ A17.out).mono ?_
                        rintro e w35 ⟨rfl, hb⟩
                        refine ⟨_, rfl, ?_⟩
                        have n0_ := Aside0.mk (blk_below (g := gb150) (o := .cells #[.int .i64 a0_0, .int .i64 a0_1, .int .u32 a0_2, .int .u32 a0_3, .int .i64 a0_4, .int .i64 a0_5, .int .i64 a0_6, .string a0_7] 31 (0, 0)) (by (with_reducible repeat (first | refine blk_drewN ?_ _ | refine blk_drew ?_ | refine blk_alloc ?_ _)); exact BK150.out) hb)
                        have n1_ := Aside0.mk (below_step (by repeat (first | (with_reducible first | exact HB.out | apply below_alloc | apply pw_below_drewN | apply below_drew1 | refine below_set ?_ GE150.out) | exact HB.out)) hb)
                        clear BK150
                        clear HB
                        have BK150 := n0_
                        have HB := n1_
                        clear n0_ n1_
                        (try clear hb)
                        (try clear hb2)
                        (try clear hk)
                        (try clear hi)
                        refine hK.out _ _ ⟨(blk_cell BK150.out 0).trans rfl, (blk_cell BK150.out 1).trans rfl, (blk_cell BK150.out 2).trans rfl, (blk_cell BK150.out 3).trans rfl, (blk_cell BK150.out 4).trans rfl, (blk_cell BK150.out 5).trans rfl, (blk_cell BK150.out 6).trans rfl, (blk_cell BK150.out 7).trans rfl⟩ (fun hHeld => ?_)
                        clear hK K
                        refine norm_ (a' := ?_) ?_ ?_
                        rotate_left
                        · show Act.put _ (some 44) _ = _
                          simp only [Act.put, List.setIfInBounds_toArray, List.set_cons_zero, List.set_cons_succ, i64_w, i32_w]
                          rfl
                        refine pure_ (i := 24) (N := some 45) (v := ?_) (a' := ?_) #[true, true, true, true, true, true, true, true, true, true, true, true, true, true, true, true, true, true, true, true, true, true, true, true, true, true, true, false, false, false, true, true, false, false, true, true, false, true, false, false, false] rfl rfl (any_of HT_.out (by kernel_rfl)) (fun _ _ _ h => h) (Or.inl ⟨by rfl, ?_⟩) ?_ ?_
                        rotate_left
                        · intro w'
                          go_simp
                          with_reducible rfl
                        rotate_left
                        · simp only [Act.put, List.setIfInBounds_toArray, List.set_cons_zero, List.set_cons_succ, i64_w, i32_w]
                          rfl
                        refine one_ (i := 27) (N := some 48) #[true, true, true, true, true, true, true, true, true, true, true, true, true, true, true, true, true, true, true, true, true, true, true, true, true, true, true, true, false, false, true, true, false, false, true, true, false, true, false, false, false] rfl rfl (one_of HT_.out (by kernel_rfl)) (by decide) (fun K hK => ?_)
                        refine goes_ Try.func23 (by kernel_rfl) rfl #[.int .i64 2, .int .i64 a0_5] (by rfl) rfl rfl (by (try simp only [List.map_toArray, List.map_cons, List.map_nil]); first | done | rfl | (simp only [List.length_drop, List.length_take]; rfl)) ?_
                        with_reducible refine (weighbridgeref05_num.calls 2 a0_5 t157 _ A19.out).mono ?_
                        rintro e w36 ⟨rfl, hb⟩
                        refine ⟨_, rfl, ?_⟩
                        have n0_ := Aside0.mk (blk_below (g := gb150) (o := .cells #[.int .i64 a0_0, .int .i64 a0_1, .int .u32 a0_2, .int .u32 a0_3, .int .i64 a0_4, .int .i64 a0_5, .int .i64 a0_6, .string a0_7] 31 (0, 0)) (by (with_reducible repeat (first | refine blk_drewN ?_ _ | refine blk_drew ?_ | refine blk_alloc ?_ _)); exact BK150.out) hb)
                        have n1_ := Aside0.mk (below_step (by repeat (first | (with_reducible first | exact HB.out | apply below_alloc | apply pw_below_drewN | apply below_drew1 | refine below_set ?_ GE150.out) | exact HB.out)) hb)
                        clear BK150
                        clear HB
                        have BK150 := n0_
                        have HB := n1_
                        clear n0_ n1_
                        (try clear hb)
                        (try clear hb2)
                        (try clear hk)
                        (try clear hi)
                        refine hK.out _ _ ⟨(blk_cell BK150.out 0).trans rfl, (blk_cell BK150.out 1).trans rfl, (blk_cell BK150.out 2).trans rfl, (blk_cell BK150.out 3).trans rfl, (blk_cell BK150.out 4).trans rfl, (blk_cell BK150.out 5).trans rfl, (blk_cell BK150.out 6).trans rfl, (blk_cell BK150.out 7).trans rfl⟩ (fun hHeld => ?_)
                        clear hK K
                        refine norm_ (a' := ?_) ?_ ?_
                        rotate_left
                        · show Act.put _ (some 48) _ = _
                          simp only [Act.put, List.setIfInBounds_toArray, List.set_cons_zero, List.set_cons_succ, i64_w, i32_w]
                          rfl
                        refine pure_ (i := 28) (N := some 49) (v := ?_) (a' := ?_) #[true, true, true, true, true, true, true, true, true, true, true, true, true, true, true, true, true, true, true, true, true, true, true, true, true, true, true, true, true, false, true, true, false, false, true, true, false, true, false, false, false] rfl rfl (any_of HT_.out (by kernel_rfl)) (fun _ _ _ h => h) (Or.inl ⟨by rfl, ?_⟩) ?_ ?_
                        rotate_left
                        · intro w'
                          go_simp
                          with_reducible rfl
                        rotate_left
                        · simp only [Act.put, List.setIfInBounds_toArray, List.set_cons_zero, List.set_cons_succ, i64_w, i32_w]
                          rfl
                        refine pure_ (i := 29) (N := some 50) (v := ?_) (a' := ?_) #[true, true, true, true, true, true, true, true, true, true, true, true, true, true, true, true, true, true, true, true, true, true, true, true, true, true, true, true, true, true, true, true, false, false, true, true, false, true, false, false, false] rfl rfl (any_of HT_.out (by kernel_rfl)) (fun _ _ _ h => h) (Or.inl ⟨by rfl, ?_⟩) ?_ ?_
                        rotate_left
                        · intro w'
                          go_simp
                          with_reducible rfl
                        rotate_left
                        · simp only [Act.put, List.setIfInBounds_toArray, List.set_cons_zero, List.set_cons_succ, i64_w, i32_w]
                          rfl
                        refine one_ (i := 32) (N := some 53) #[true, true, true, true, true, true, true, true, true, true, true, true, true, true, true, true, true, true, true, true, true, true, true, true, true, true, true, true, true, true, true, true, true, false, true, true, false, true, false, false, false] rfl rfl (one_of HT_.out (by kernel_rfl)) (by decide) (fun K hK => ?_)
                        refine goes_ Try.func23 (by kernel_rfl) rfl #[.int .i64 2, .int .i64 a0_6] (by rfl) rfl rfl (by (try simp only [List.map_toArray, List.map_cons, List.map_nil]); first | done | rfl | (simp only [List.length_drop, List.length_take]; rfl)) ?_
                        with_reducible refine (weighbridgeref05_num.calls 2 a0_6 t158 _ A22.out).mono ?_
                        rintro e w37 ⟨rfl, hb⟩
                        refine ⟨_, rfl, ?_⟩
                        have n0_ := Aside0.mk (blk_below (g := gb150) (o := .cells #[.int .i64 a0_0, .int .i64 a0_1, .int .u32 a0_2, .int .u32 a0_3, .int .i64 a0_4, .int .i64 a0_5, .int .i64 a0_6, .string a0_7] 31 (0, 0)) (by (with_reducible repeat (first | refine blk_drewN ?_ _ | refine blk_drew ?_ | refine blk_alloc ?_ _)); exact BK150.out) hb)
                        have n1_ := Aside0.mk (below_step (by repeat (first | (with_reducible first | exact HB.out | apply below_alloc | apply pw_below_drewN | apply below_drew1 | refine below_set ?_ GE150.out) | exact HB.out)) hb)
                        clear BK150
                        clear HB
                        have BK150 := n0_
                        have HB := n1_
                        clear n0_ n1_
                        (try clear hb)
                        (try clear hb2)
                        (try clear hk)
                        (try clear hi)
                        refine hK.out _ _ ⟨(blk_cell BK150.out 0).trans rfl, (blk_cell BK150.out 1).trans rfl, (blk_cell BK150.out 2).trans rfl, (blk_cell BK150.out 3).trans rfl, (blk_cell BK150.out 4).trans rfl, (blk_cell BK150.out 5).trans rfl, (blk_cell BK150.out 6).trans rfl, (blk_cell BK150.out 7).trans rfl⟩ (fun hHeld => ?_)
                        clear hK K
                        refine norm_ (a' := ?_) ?_ ?_
                        rotate_left
                        · show Act.put _ (some 53) _ = _
                          simp only [Act.put, List.setIfInBounds_toArray, List.set_cons_zero, List.set_cons_succ, i64_w, i32_w]
                          rfl
                        refine pure_ (i := 33) (N := some 54) (v := ?_) (a' := ?_) #[true, true, true, true, true, true, true, true, true, true, true, true, true, true, true, true, true, true, true, true, true, true, true, true, true, true, true, true, true, true, true, true, true, true, true, true, false, true, false, false, false] rfl rfl (any_of HT_.out (by kernel_rfl)) (fun _ _ _ h => h) (Or.inl ⟨by rfl, ?_⟩) ?_ ?_
                        rotate_left
                        · intro w'
                          go_simp
                          with_reducible rfl
                        rotate_left
                        · simp only [Act.put, List.setIfInBounds_toArray, List.set_cons_zero, List.set_cons_succ, i64_w, i32_w]
                          rfl
                        refine pure_ (i := 36) (N := some 57) (v := ?_) (a' := ?_) #[true, true, true, true, true, true, true, true, true, true, true, true, true, true, true, true, true, true, true, true, true, true, true, true, true, true, true, true, true, true, true, true, true, true, true, true, true, true, false, false, false] rfl rfl (any_of HT_.out (by kernel_rfl)) (fun _ _ _ h => h) (Or.inl ⟨by rfl, ?_⟩) ?_ ?_
                        rotate_left
                        · intro w'
                          go_simp
                          with_reducible rfl
                        rotate_left
                        · simp only [Act.put, List.setIfInBounds_toArray, List.set_cons_zero, List.set_cons_succ, i64_w, i32_w]
                          rfl
                        refine pure_ (i := 38) (N := some 59) (v := ?_) (a' := ?_) #[true, true, true, true, true, true, true, true, true, true, true, true, true, true, true, true, true, true, true, true, true, true, true, true, true, true, true, true, true, true, true, true, true, true, true, true, true, true, true, false, false] rfl rfl (any_of HT_.out (by kernel_rfl)) (fun _ _ _ h => h) (Or.inl ⟨by rfl, ?_⟩) ?_ ?_
                        rotate_left
                        · intro w'
                          go_simp
                          with_reducible rfl
                        rotate_left
                        · simp only [Act.put, List.setIfInBounds_toArray, List.set_cons_zero, List.set_cons_succ, i64_w, i32_w]
                          rfl
                        refine pure_ (i := 39) (N := some 4) (v := ?_) (a' := ?_) #[true, true, true, true, true, true, true, true, true, true, true, true, true, true, true, true, true, true, true, true, true, true, true, true, true, true, true, true, true, true, true, true, true, true, true, true, true, true, true, true, false] rfl rfl (any_of HT_.out (by kernel_rfl)) (fun _ _ _ h => h) (Or.inl ⟨by rfl, ?_⟩) ?_ ?_
                        rotate_left
                        · intro w'
                          go_simp
                          with_reducible rfl
                        rotate_left
                        · simp only [Act.put, List.setIfInBounds_toArray, List.set_cons_zero, List.set_cons_succ, i64_w, i32_w]
                          rfl
                        refine pure_ (i := 40) (N := some 5) (v := ?_) (a' := ?_) #[true, true, true, true, true, true, true, true, true, true, true, true, true, true, true, true, true, true, true, true, true, true, true, true, true, true, true, true, true, true, true, true, true, true, true, true, true, true, true, true, true] rfl rfl (any_of HT_.out (by kernel_rfl)) (fun _ _ _ h => h) (Or.inl ⟨by rfl, ?_⟩) ?_ ?_
                        rotate_left
                        · intro w'
                          go_simp
                          with_reducible rfl
                        rotate_left
                        · simp only [Act.put, List.setIfInBounds_toArray, List.set_cons_zero, List.set_cons_succ, i64_w, i32_w]
                          rfl
                        refine done_ (done_of HT_.out (by kernel_rfl)) ?_
                        try go_wp2
                        go_ret2
                        exact ⟨by first | rfl | (simp [errW_none, errW_some] <;> rfl) | (simp [*, errW_none, errW_some] <;> rfl), by repeat (first | (with_reducible first | exact HB.out | apply below_alloc | apply pw_below_drewN | apply below_drew1 | refine below_set ?_ GE150.out) | exact HB.out)⟩
                      · rw [if_neg c25] at H
                        exact absurd H (by simp)
                    · rw [if_neg c24] at H
                      exact absurd H (by simp)
                  · rw [if_neg c23] at H
                    exact absurd H (by simp)
                · rw [if_neg c21] at H
                  exact absurd H (by simp)
              · rw [if_neg c20] at H
                exact absurd H (by simp)
            · rw [if_neg c18] at H
              exact absurd H (by simp)
          · rw [if_neg c16] at H
            exact absurd H (by simp)
        · rw [if_neg c14] at H
          exact absurd H (by simp)
      · rw [if_neg c12] at H
        exact absurd H (by simp)
  · replace c4 := Bool.eq_false_iff.mpr c4
    subst c4
    have H1 : (some ((⟨#[]⟩ : ByteArray), 1)) = some (r1, r2) := by rw [if_neg (show ¬ (false = true) by decide)] at H; exact H
    clear H
    have H := H1
    clear H1
    simp only [Option.some.injEq, Prod.mk.injEq] at H
    obtain ⟨rfl, rfl⟩ := H
    go_enter Try.func12, Try.ntmps12
    go_wp2_with (first | ((with_reducible refine gate_dst (N := 2) rfl ?_); refine box_event ?hg (N := 2) ?hd (cs := #[.int .i64 a0_0, .int .i64 a0_1, .int .u32 a0_2, .int .u32 a0_3, .int .i64 a0_4, .int .i64 a0_5, .int .i64 a0_6, .string a0_7]) (t := 31) ?hr ?_; (case hd => rfl); (case hg => rfl); (case hr => first | (go_simp; done) | (go_simp; rfl)); intro gb150 hg w38 hbox hb; have n0_ := Aside0.mk (below_step (by repeat (first | (with_reducible first | exact HB.out | apply below_alloc | apply pw_below_drewN | apply below_drew1) | exact HB.out)) hb); have n1_ := Aside0.mk (hbox); have n2_ := Aside0.mk ((by rw [hg]; exact (below_size (by repeat (first | (with_reducible first | exact HB.out | apply below_alloc | apply pw_below_drewN | apply below_drew1) | exact HB.out))) : w.heap.size ≤ gb150)); have n3_ := Aside0.mk ((by rw [hg]; exact (below_size (by repeat (first | (with_reducible first | exact HB.out | apply below_alloc | apply pw_below_drewN | apply below_drew1) | exact HB.out))) : w.heap.size ≤ gb150)); clear HB; have HB := n0_; have BK150 := n1_; have GW150 := n2_; have GE150 := n3_; clear n0_ n1_ n2_ n3_; clear hb hbox hg; have hcz39_0 : w38.cell? ⟨gb150, 0, none⟩ = some (.int .i64 a0_0) := (blk_cell BK150.out 0).trans rfl; have hcz39_1 : w38.cell? ⟨gb150, 1, none⟩ = some (.int .i64 a0_1) := (blk_cell BK150.out 1).trans rfl; have hcz39_2 : w38.cell? ⟨gb150, 2, none⟩ = some (.int .u32 a0_2) := (blk_cell BK150.out 2).trans rfl; have hcz39_3 : w38.cell? ⟨gb150, 3, none⟩ = some (.int .u32 a0_3) := (blk_cell BK150.out 3).trans rfl; have hcz39_4 : w38.cell? ⟨gb150, 4, none⟩ = some (.int .i64 a0_4) := (blk_cell BK150.out 4).trans rfl; have hcz39_5 : w38.cell? ⟨gb150, 5, none⟩ = some (.int .i64 a0_5) := (blk_cell BK150.out 5).trans rfl; have hcz39_6 : w38.cell? ⟨gb150, 6, none⟩ = some (.int .i64 a0_6) := (blk_cell BK150.out 6).trans rfl; have hcz39_7 : w38.cell? ⟨gb150, 7, none⟩ = some (.string a0_7) := (blk_cell BK150.out 7).trans rfl; have hfz39_0 := blk_frozen BK150.out 0; have hfz39_1 := blk_frozen BK150.out 1; have hfz39_2 := blk_frozen BK150.out 2; have hfz39_3 := blk_frozen BK150.out 3; have hfz39_4 := blk_frozen BK150.out 4; have hfz39_5 := blk_frozen BK150.out 5; have hfz39_6 := blk_frozen BK150.out 6; have hfz39_7 := blk_frozen BK150.out 7) | ((with_reducible refine gate_callee (f := 15) rfl ?_); refine goesL_ (some 9) rfl rfl Try.func15 (by kernel_rfl) rfl #[.agg #[.int .i64 a0_0, .int .i64 a0_1, .int .u32 a0_2, .int .u32 a0_3, .int .i64 a0_4, .int .i64 a0_5, .int .i64 a0_6, .string a0_7]] rfl (by (try simp only [List.map_toArray, List.map_cons, List.map_nil]); first | done | rfl | (simp only [List.length_drop, List.length_take]; rfl)) ?_; (with_reducible refine (weighbridgeref05_Right.calls a0_0 a0_1 a0_2 a0_3 a0_4 a0_5 a0_6 a0_7 false _ A3.out).mono ?_); rintro e w40 ⟨rfl, hb⟩; (try clear A3); refine ⟨_, rfl, ?_⟩; have n0_ := Aside0.mk (blk_below (g := gb150) (o := .cells #[.int .i64 a0_0, .int .i64 a0_1, .int .u32 a0_2, .int .u32 a0_3, .int .i64 a0_4, .int .i64 a0_5, .int .i64 a0_6, .string a0_7] 31 (0, 0)) (by (with_reducible repeat (first | refine blk_drewN ?_ _ | refine blk_drew ?_ | refine blk_alloc ?_ _)); exact BK150.out) hb); have n1_ := Aside0.mk (below_step (by repeat (first | (with_reducible first | exact HB.out | apply below_alloc | apply pw_below_drewN | apply below_drew1 | refine below_set ?_ GE150.out) | exact HB.out)) hb); clear BK150; clear HB; have BK150 := n0_; have HB := n1_; clear n0_ n1_; (try clear hb); (try clear hb2); (try clear hk); (try clear hi)))
    go_ret2
    exact ⟨by first | rfl | (simp [errW_none, errW_some] <;> rfl) | (simp [*, errW_none, errW_some] <;> rfl), by repeat (first | (with_reducible first | exact HB.out | apply below_alloc | apply pw_below_drewN | apply below_drew1 | refine below_set ?_ GE150.out) | exact HB.out)⟩

theorem r5_num {a b : Int} (h : Sp.fits a b = true) : weighbridgeref05_num.f a b = some (lb (Sp.beBytes a.toNat b)) := by
  unfold weighbridgeref05_num.f; rw [weighbridgeref04_Num_yes h]; rfl
theorem r5_wrap {n : Int} (h0 : -9223372036854775808 ≤ n) (h1 : n ≤ 9223372036854775807) : wrap64 n = n := by unfold wrap64; omega
def weighbridgeref05_Build.f (a0_0 a0_1 a0_2 a0_3 a0_4 a0_5 a0_6 : Int) (a0_7 : ByteArray) (a1 : ByteArray) : Option (ByteArray × Int) := if (0 ≤ a0_2 ∧ a0_2 ≤ 4294967295) ∧ (0 ≤ a0_3 ∧ a0_3 ≤ 4294967295) ∧ a0_7.size ≤ 140737488355328 ∧ a1.size ≤ 140737488355328 then some (lb (Sp.tcpBuild a0_0 a0_1 a0_2 a0_3 a0_4 a0_5 a0_6 (bl a0_7) (bl a1)).1, (Sp.tcpBuild a0_0 a0_1 a0_2 a0_3 a0_4 a0_5 a0_6 (bl a0_7) (bl a1)).2) else none
theorem weighbridgeref05_Build_eq {a0_0 a0_1 a0_2 a0_3 a0_4 a0_5 a0_6 : Int} {a0_7 a1 : ByteArray} (h0 : 0 ≤ a0_2 ∧ a0_2 ≤ 4294967295) (h1 : 0 ≤ a0_3 ∧ a0_3 ≤ 4294967295) (h2 : a0_7.size ≤ 140737488355328) (h3 : a1.size ≤ 140737488355328) : weighbridgeref05_Build.f a0_0 a0_1 a0_2 a0_3 a0_4 a0_5 a0_6 a0_7 a1 = some (lb (Sp.tcpBuild a0_0 a0_1 a0_2 a0_3 a0_4 a0_5 a0_6 (bl a0_7) (bl a1)).1, (Sp.tcpBuild a0_0 a0_1 a0_2 a0_3 a0_4 a0_5 a0_6 (bl a0_7) (bl a1)).2) := by unfold weighbridgeref05_Build.f; exact if_pos ⟨h0, h1, h2, h3⟩
theorem r5_fits4 {n : Int} (h : 0 ≤ n ∧ n ≤ 4294967295) : Sp.fits 4 n = true := Sp.fits_iff.2 ⟨by decide, by decide, h.1, by show n < 256 ^ 4; omega⟩
theorem weighbridgeref05_Build_ev (a0_0 a0_1 a0_2 a0_3 a0_4 a0_5 a0_6 : Int) (a0_7 a1 : ByteArray) (r : ByteArray × Int) (h : weighbridgeref05_Build.f a0_0 a0_1 a0_2 a0_3 a0_4 a0_5 a0_6 a0_7 a1 = some r) : weighbridgeref05_Build_p.f a0_0 a0_1 a0_2 a0_3 a0_4 a0_5 a0_6 a0_7 a1 = some r := by
  unfold weighbridgeref05_Build.f at h
  split at h
  case isFalse => cases h
  case isTrue hs =>
    obtain ⟨s2, s3, s7, s1⟩ := hs
    rw [← h]
    unfold weighbridgeref05_Build_p.f Sp.tcpBuild
    rw [weighbridgeref05_Right_eq s7, Option.bind_some]
    have hl := bl_length a0_7
    have hb := bl_length a1
    by_cases hr : Sp.tcpRight a0_0 a0_1 a0_4 a0_5 a0_6 (bl a0_7) = true
    · obtain ⟨f0, f1, f5, f6, hfl, hol, _⟩ := Sp.tcpRight_iff.1 hr
      rw [if_pos hr, if_pos hr, r5_wrap (n := 20 + (a0_7.size : Int)) (by omega) (by omega), r5_wrap (n := 20 + (a0_7.size : Int) + (a1.size : Int)) (by omega) (by omega)]
      by_cases hz : 20 + (a0_7.size : Int) + (a1.size : Int) > 1500
      · rw [if_pos hz, if_pos (by omega)]; rfl
      · have ff : Sp.fits 2 (4096 * ((20 + (a0_7.size : Int)) / 4) + a0_4) = true := Sp.fits2.2 ⟨by omega, by omega⟩
        rw [if_neg hz, if_neg (by omega), Int.tdiv_eq_ediv_of_nonneg (by omega), r5_wrap (n := (20 + (a0_7.size : Int)) / 4) (by omega) (by omega), r5_wrap (n := 4096 * ((20 + (a0_7.size : Int)) / 4)) (by omega) (by omega), r5_wrap (n := 4096 * ((20 + (a0_7.size : Int)) / 4) + a0_4) (by omega) (by omega), r5_wrap (n := a0_2) (by omega) (by omega), r5_wrap (n := a0_3) (by omega) (by omega)]
        have l2 : ∀ x, (Sp.beBytes (2 : Int).toNat x).length = 2 := fun x => by rw [Sp.beBytes_length]; rfl
        have l4 : ∀ x, (Sp.beBytes (4 : Int).toNat x).length = 4 := fun x => by rw [Sp.beBytes_length]; rfl
        have e7 : lb (bl a0_7) = a0_7 := Sp.lb_bl a0_7
        have e1 : lb (bl a1) = a1 := Sp.lb_bl a1
        rw [r5_num f0, Option.bind_some, r5_num f1, Option.bind_some, if_pos (by rw [lb_size, lb_size, l2, l2]; decide), Sp.lb_append,
          r5_num (r5_fits4 s2), Option.bind_some, if_pos (by rw [lb_size, lb_size, List.length_append, l2, l2, l4]; decide), Sp.lb_append,
          r5_num (r5_fits4 s3), Option.bind_some, if_pos (by rw [lb_size, lb_size, List.length_append, List.length_append, l2, l2, l4, l4]; decide), Sp.lb_append,
          r5_num ff, Option.bind_some, if_pos (by rw [lb_size, lb_size, List.length_append, List.length_append, List.length_append, l2, l2, l4, l4, l2]; decide), Sp.lb_append,
          r5_num f5, Option.bind_some, if_pos (by rw [lb_size, lb_size, List.length_append, List.length_append, List.length_append, List.length_append, l2, l2, l4, l4, l2, l2]; decide), Sp.lb_append,
          if_pos (by rw [lb_size, List.length_append, List.length_append, List.length_append, List.length_append, List.length_append, l2, l2, l4, l4, l2, l2]; decide), show (⟨#[0, 0]⟩ : ByteArray) = lb [0, 0] from rfl, Sp.lb_append,
          r5_num f6, Option.bind_some, if_pos (by rw [lb_size, lb_size, List.length_append, List.length_append, List.length_append, List.length_append, List.length_append, List.length_append, l2, l2, l4, l4, l2, l2, l2]; decide), Sp.lb_append]
        have hh : Sp.beBytes (2 : Int).toNat a0_0 ++ Sp.beBytes (2 : Int).toNat a0_1 ++ Sp.beBytes (4 : Int).toNat a0_2 ++ Sp.beBytes (4 : Int).toNat a0_3 ++ Sp.beBytes (2 : Int).toNat (4096 * ((20 + (a0_7.size : Int)) / 4) + a0_4) ++ Sp.beBytes (2 : Int).toNat a0_5 ++ [0, 0] ++ Sp.beBytes (2 : Int).toNat a0_6 = Sp.tcpHead a0_0 a0_1 a0_2 a0_3 a0_4 a0_5 a0_6 (bl a0_7) := by
          unfold Sp.tcpHead; rw [hl]; rfl
        rw [hh, if_pos (by rw [lb_size, Sp.tcpHead_length]; omega), if_pos (by rw [ByteArray.size_append, lb_size, Sp.tcpHead_length]; omega)]
        rw [show lb (Sp.tcpHead a0_0 a0_1 a0_2 a0_3 a0_4 a0_5 a0_6 (bl a0_7)) ++ a0_7 ++ a1 = lb (Sp.tcpHead a0_0 a0_1 a0_2 a0_3 a0_4 a0_5 a0_6 (bl a0_7) ++ bl a0_7 ++ bl a1) from Sp.bl_inj (by simp only [Sp.bl_append, Sp.bl_lb])]
    · rw [if_neg hr, if_neg hr]; rfl
theorem weighbridgeref05_Build.calls (a0_0 : Int) (a0_1 : Int) (a0_2 : Int) (a0_3 : Int) (a0_4 : Int) (a0_5 : Int) (a0_6 : Int) (a0_7 : ByteArray) (a1 : ByteArray) (r1 : ByteArray) (r2 : Int) (w : World) (h : weighbridgeref05_Build.f a0_0 a0_1 a0_2 a0_3 a0_4 a0_5 a0_6 a0_7 a1 = some (r1, r2)) :
    Calls Try.prog 12 #[.agg #[.int .i64 a0_0, .int .i64 a0_1, .int .u32 a0_2, .int .u32 a0_3, .int .i64 a0_4, .int .i64 a0_5, .int .i64 a0_6, .string a0_7], .string a1] w fun e w' => e = .returned (.tuple #[.string r1, .int .i64 r2]) ∧ Below w.heap.size w w' := by
  have hk := weighbridgeref05_Build_ev a0_0 a0_1 a0_2 a0_3 a0_4 a0_5 a0_6 a0_7 a1 _ h
  exact weighbridgeref05_Build_p.calls a0_0 a0_1 a0_2 a0_3 a0_4 a0_5 a0_6 a0_7 a1 r1 r2 w hk

/-! ### weighbridgeref05_Name_p: function 19 -/
def weighbridgeref05_Name_p.l0 : Nat → Int → ByteArray → Int → Option (ByteArray)
  | 0, _, _, _ => none
  | k + 1, x0, x3, x4 => if x4 < 6 then (if 0 ≤ x4 then (if (Go.bits .and .i64 (shr .i64 x0 x4) 1) = 1 then (if x4 ≤ (wrap64 (x4 + 1)) then (if (wrap64 (x4 + 1)) ≤ 6 then (if x3.size + ((⟨#[70, 83, 82, 80, 65, 85]⟩ : ByteArray).extract (x4 : Int).toNat ((wrap64 (x4 + 1)) : Int).toNat).size ≤ 9223372036854775807 then (weighbridgeref05_Name_p.l0 k x0 (x3 ++ ((⟨#[70, 83, 82, 80, 65, 85]⟩ : ByteArray).extract (x4 : Int).toNat ((wrap64 (x4 + 1)) : Int).toNat)) (wrap64 (x4 + 1))) else (none)) else (none)) else (none)) else (weighbridgeref05_Name_p.l0 k x0 x3 (wrap64 (x4 + 1)))) else (none)) else (some x3)
def weighbridgeref05_Name_p.f (k : Nat) (a0 : Int) : Option (ByteArray) := weighbridgeref05_Name_p.l0 k a0 (⟨#[]⟩ : ByteArray) 0
theorem weighbridgeref05_Name_p.mono_l : ∀ k, (∀ y0 y1 y2, LeO (weighbridgeref05_Name_p.l0 k y0 y1 y2) (weighbridgeref05_Name_p.l0 (k + 1) y0 y1 y2))
  | 0 => fun _ _ _ r h => by simp [weighbridgeref05_Name_p.l0] at h
  | k + 1 => by
    have ih0 := weighbridgeref05_Name_p.mono_l k
    · intro y0 y1 y2
      unfold weighbridgeref05_Name_p.l0
      repeat' first
      | (with_reducible exact ih0 _ _ _)
      | (with_reducible exact LeO.refl _)
      | (with_reducible exact LeO.none _)
      | (with_reducible refine LeO.ite ?_ ?_)
      | (with_reducible refine LeO.bind ?_ (fun _ => ?_))
      | exact ih0 _ _ _
      | exact LeO.none _
      | refine LeO.ite ?_ ?_
      | refine LeO.bind ?_ (fun _ => ?_)
theorem weighbridgeref05_Name_p.mono : ∀ a0 k, LeO (weighbridgeref05_Name_p.f k a0) (weighbridgeref05_Name_p.f (k + 1) a0) := by
  intro a0 k
  have ih0 := weighbridgeref05_Name_p.mono_l k
  unfold weighbridgeref05_Name_p.f
  repeat' first
      | (with_reducible exact ih0 _ _ _)
      | (with_reducible exact LeO.refl _)
      | (with_reducible exact LeO.none _)
      | (with_reducible refine LeO.ite ?_ ?_)
      | (with_reducible refine LeO.bind ?_ (fun _ => ?_))
      | exact ih0 _ _ _
      | exact LeO.none _
      | refine LeO.ite ?_ ?_
      | refine LeO.bind ?_ (fun _ => ?_)
set_option maxHeartbeats 8000000 in
set_option maxRecDepth 100000 in
theorem weighbridgeref05_Name_p.calls (k : Nat) (a0 : Int) (r : ByteArray) (w : World) (h : weighbridgeref05_Name_p.f k a0 = some r) :
    Calls Try.prog 19 #[.int .i64 a0] w fun e w' => e = .returned (.string r) ∧ Drawn0 w w' := by
  have H : (weighbridgeref05_Name_p.l0 k a0 (⟨#[]⟩ : ByteArray) 0) = some r := h
  clear h
  have H' := Aside0.mk H
  clear H
  go_enter Try.func19, Try.ntmps19
  go_wp2
  go_loopg [3, 4] k (fun kq v3 v4 w' => ∃ (x3_1 : ByteArray) (x4_1 : Int), v3 = .string x3_1 ∧ v4 = .int .i64 x4_1 ∧ Aside0 (weighbridgeref05_Name_p.l0 kq a0 x3_1 x4_1 = some r) ∧ Aside0 (kq ≤ k) ∧ Drawn0 w w')
  case atStart => exact ⟨((⟨#[]⟩ : ByteArray)), (0), (by first | rfl | (simp; done) | (simp [*]; done)), (by first | rfl | (simp; done) | (simp [*]; done)), H', ⟨Nat.le_refl _⟩, by repeat (first | exact Drawn0.refl _ | apply Drawn0.step)⟩
  case round =>
    clear H'
    try clear c1
    obtain ⟨x3_1, x4_1, rfl, rfl, HA, HK1, ⟨m1, rfl⟩⟩ := hrel
    cases gk with
    | zero => exact absurd HA.out (by simp [weighbridgeref05_Name_p.l0])
    | succ k1 =>
      have H := HA.out
      clear HA
      simp only [weighbridgeref05_Name_p.l0] at H
      by_cases c2 : x4_1 < 6
      · rw [if_pos c2] at H
        have c2b0 : decide (x4_1 < 6) = true := decide_eq_true c2
        clear c2
        by_cases c3 : 0 ≤ x4_1
        · rw [if_pos c3] at H
          have c3b0 := eq_true c3
          have c3b1 : decide (0 ≤ x4_1) = true := decide_eq_true c3
          clear c3
          obtain ⟨ji4, hji4⟩ : ∃ j_ : Int, (shr .i64 a0 x4_1) = j_ := ⟨_, rfl⟩
          replace H : (if (Go.bits .and .i64 (ji4) 1) = 1 then (if x4_1 ≤ (wrap64 (x4_1 + 1)) then (if (wrap64 (x4_1 + 1)) ≤ 6 then (if x3_1.size + ((⟨#[70, 83, 82, 80, 65, 85]⟩ : ByteArray).extract (x4_1 : Int).toNat ((wrap64 (x4_1 + 1)) : Int).toNat).size ≤ 9223372036854775807 then (weighbridgeref05_Name_p.l0 k1 a0 (x3_1 ++ ((⟨#[70, 83, 82, 80, 65, 85]⟩ : ByteArray).extract (x4_1 : Int).toNat ((wrap64 (x4_1 + 1)) : Int).toNat)) (wrap64 (x4_1 + 1))) else (none)) else (none)) else (none)) else (weighbridgeref05_Name_p.l0 k1 a0 x3_1 (wrap64 (x4_1 + 1)))) = some r := by first | (rw [hji4] at H; exact H) | (simp only [hji4] at H ⊢; exact H)
          have hji4_ : (a0 / 2 ^ min x4_1.toNat 64) = ji4 := hji4
          have hji4z : x4_1 ≤ 64 → (a0 / 2 ^ x4_1.toNat) = ji4 := shr_small hji4
          by_cases c5 : (Go.bits .and .i64 (ji4) 1) = 1
          · rw [if_pos c5] at H
            have c5b0 : ((Go.bits .and .i64 (ji4) 1) == 1) = true := beq_iff_eq.mpr c5
            have c5b1 : ((Go.bits .and .i64 (ji4) 1) != 1) = false := bne_eq_false_iff_eq.mpr c5
            clear c5
            have c6b0 := eq_true (of_decide_eq_true (by first | (with_reducible assumption) | assumption) : 0 ≤ x4_1)
            by_cases c7 : x4_1 ≤ (wrap64 (x4_1 + 1))
            · rw [if_pos c7] at H
              have c7b0 := eq_true c7
              have c7b1 : decide (x4_1 ≤ (wrap64 (x4_1 + 1))) = true := decide_eq_true c7
              by_cases c8 : (wrap64 (x4_1 + 1)) ≤ 6
              · rw [if_pos c8] at H
                have c8b0 := eq_true c8
                have c8b1 : decide ((wrap64 (x4_1 + 1)) ≤ 6) = true := decide_eq_true c8
                by_cases c9 : x3_1.size + ((⟨#[70, 83, 82, 80, 65, 85]⟩ : ByteArray).extract (x4_1 : Int).toNat ((wrap64 (x4_1 + 1)) : Int).toNat).size ≤ 9223372036854775807
                · rw [if_pos c9] at H
                  have c9b0 := eq_true c9
                  have c9b1 : decide (x3_1.size + ((⟨#[70, 83, 82, 80, 65, 85]⟩ : ByteArray).extract (x4_1 : Int).toNat ((wrap64 (x4_1 + 1)) : Int).toNat).size ≤ 9223372036854775807) = true := decide_eq_true c9
                  try have c9b2 : (9223372036854775807 < x3_1.size + ((⟨#[70, 83, 82, 80, 65, 85]⟩ : ByteArray).extract (x4_1 : Int).toNat ((wrap64 (x4_1 + 1)) : Int).toNat).size) = False := eq_false (Nat.not_lt.2 c9)
                  (try (have c9r := c9; (repeat rw [ByteArray.size_append] at c9r); (repeat rw [ByteArray.size_extract] at c9r); (repeat rw [Nat.sub_zero] at c9r); (repeat rw [Nat.min_self] at c9r); (try rw [show (⟨#[70, 83, 82, 80, 65, 85]⟩ : ByteArray).size = 6 from rfl] at c9r); have c9rt := eq_true c9r; have c9ru := eq_false (Nat.not_lt.mpr c9r); clear c9r))
                  (try (have c9s := c9; simp [c3b0, c6b0, c7b0, c8b0] at c9s; have c9t := eq_true c9s; have c9u := eq_false (Nat.not_lt.mpr c9s); clear c9s))
                  have H' := Aside0.mk H
                  clear H
                  go_wp2
                  go_roundg k1
                  case measure => have := HK1.out; omega
                  case rel => exact ⟨(x3_1 ++ ((⟨#[70, 83, 82, 80, 65, 85]⟩ : ByteArray).extract (x4_1 : Int).toNat ((wrap64 (x4_1 + 1)) : Int).toNat)), (wrap64 (x4_1 + 1)), (by first | rfl | (simp; done) | (congr 2; simp only [ByteArray.size_extract, ByteArray.size_append]; (try have := of_eq_true c3b0); (try have := of_eq_true c6b0); (try have := of_eq_true c7b0); (try have := of_eq_true c8b0); (try have := of_eq_true c9b0); have : (⟨#[70, 83, 82, 80, 65, 85]⟩ : ByteArray).size = 6 := rfl; (try unfold wrap64); omega) | (simp only [ByteArray.size_extract, ByteArray.size_append, Nat.sub_zero]; done) | (congr 1; simp only [ByteArray.size_extract, ByteArray.size_append, Nat.sub_zero]; (try have := of_eq_true c3b0); (try have := of_eq_true c6b0); (try have := of_eq_true c7b0); (try have := of_eq_true c8b0); (try have := of_eq_true c9b0); have : (⟨#[70, 83, 82, 80, 65, 85]⟩ : ByteArray).size = 6 := rfl; omega) | (simp [*]; done)), (by first | rfl | (simp; done) | (congr 2; simp only [ByteArray.size_extract, ByteArray.size_append]; (try have := of_eq_true c3b0); (try have := of_eq_true c6b0); (try have := of_eq_true c7b0); (try have := of_eq_true c8b0); (try have := of_eq_true c9b0); have : (⟨#[70, 83, 82, 80, 65, 85]⟩ : ByteArray).size = 6 := rfl; (try unfold wrap64); omega) | (simp only [ByteArray.size_extract, ByteArray.size_append, Nat.sub_zero]; done) | (congr 1; simp only [ByteArray.size_extract, ByteArray.size_append, Nat.sub_zero]; (try have := of_eq_true c3b0); (try have := of_eq_true c6b0); (try have := of_eq_true c7b0); (try have := of_eq_true c8b0); (try have := of_eq_true c9b0); have : (⟨#[70, 83, 82, 80, 65, 85]⟩ : ByteArray).size = 6 := rfl; omega) | (simp [*]; done)), H', ⟨by have := HK1.out; omega⟩, by repeat (first | exact Drawn0.refl _ | apply Drawn0.step)⟩
                · rw [if_neg c9] at H
                  exact absurd H (by simp)
              · rw [if_neg c8] at H
                exact absurd H (by simp)
            · rw [if_neg c7] at H
              exact absurd H (by simp)
          · rw [if_neg c5] at H
            have c5b0 : ((Go.bits .and .i64 (ji4) 1) == 1) = false := beq_eq_false_iff_ne.mpr c5
            have c5b1 : ((Go.bits .and .i64 (ji4) 1) != 1) = true := bne_iff_ne.mpr c5
            have H' := Aside0.mk H
            clear H
            go_wp2
            go_roundg k1
            case measure => have := HK1.out; omega
            case rel => exact ⟨(x3_1), (wrap64 (x4_1 + 1)), (by first | rfl | (simp; done) | (congr 2; simp only [ByteArray.size_extract, ByteArray.size_append]; (try have := of_eq_true c3b0); (try unfold wrap64); omega) | (simp only [ByteArray.size_extract, ByteArray.size_append, Nat.sub_zero]; done) | (congr 1; simp only [ByteArray.size_extract, ByteArray.size_append, Nat.sub_zero]; (try have := of_eq_true c3b0); omega) | (simp [*]; done)), (by first | rfl | (simp; done) | (congr 2; simp only [ByteArray.size_extract, ByteArray.size_append]; (try have := of_eq_true c3b0); (try unfold wrap64); omega) | (simp only [ByteArray.size_extract, ByteArray.size_append, Nat.sub_zero]; done) | (congr 1; simp only [ByteArray.size_extract, ByteArray.size_append, Nat.sub_zero]; (try have := of_eq_true c3b0); omega) | (simp [*]; done)), H', ⟨by have := HK1.out; omega⟩, by repeat (first | exact Drawn0.refl _ | apply Drawn0.step)⟩
        · rw [if_neg c3] at H
          exact absurd H (by simp)
      · rw [if_neg c2] at H
        have c2b0 : decide (x4_1 < 6) = false := decide_eq_false c2
        clear c2
        obtain rfl := Option.some.inj H
        go_wp2
        go_ret
        exact ⟨by first | rfl | (simp; done) | (simp [*]; done), by repeat (first | exact Drawn0.refl _ | apply Drawn0.step)⟩

def weighbridgeref05_Name.f (a0 : Int) : Option ByteArray := some (lb (nm a0 6))
theorem r5_letter : ∀ i : Fin 6, (⟨#[70, 83, 82, 80, 65, 85]⟩ : ByteArray).extract i.val (i.val + 1) = lb [letters6.data.getD i.val 0] := by decide +kernel
theorem r5_name_loop (x : Int) : ∀ (n i : Nat), i + n = 6 → ∀ k, n + 1 ≤ k → weighbridgeref05_Name_p.l0 k x (lb (nm x i)) (i : Int) = some (lb (nm x 6)) := by
  intro n
  induction n with
  | zero =>
    intro i hi k hk
    obtain ⟨k, rfl⟩ : ∃ k', k = k' + 1 := ⟨k - 1, by omega⟩
    obtain rfl : i = 6 := by omega
    rw [weighbridgeref05_Name_p.l0, if_neg (by decide)]
  | succ n ih =>
    intro i hi k hk
    obtain ⟨k, rfl⟩ : ∃ k', k = k' + 1 := ⟨k - 1, by omega⟩
    have hn := nm_length x i
    have := ih (i + 1) (by omega) k (by omega)
    rw [show (((i + 1 : Nat)) : Int) = (i : Int) + 1 by omega] at this
    rw [weighbridgeref05_Name_p.l0, if_pos (by omega), if_pos (by omega), shr_nat i (by omega), and_one, r5_wrap (n := (i : Int) + 1) (by omega) (by omega)]
    by_cases hb : x / 2 ^ i % 2 = 1
    · have hx := r5_letter ⟨i, by omega⟩
      have e : (⟨#[70, 83, 82, 80, 65, 85]⟩ : ByteArray).extract ((i : Int)).toNat ((i : Int) + 1).toNat = lb [letters6.data.getD i 0] := by
        rw [Int.toNat_natCast, show ((i : Int) + 1).toNat = i + 1 by omega]; exact hx
      rw [if_pos hb, if_pos (by omega), if_pos (by omega), e, if_pos (by rw [lb_size, lb_size]; simp; omega), Sp.lb_append]
      rw [nm, if_neg (by omega)] at this
      exact this
    · have h0 : x / 2 ^ i % 2 = 0 := by omega
      rw [if_neg hb]
      rw [nm, if_pos h0, List.append_nil] at this
      exact this
theorem weighbridgeref05_Name_ev (a0 : Int) (r : ByteArray) (h : weighbridgeref05_Name.f a0 = some r) : ∃ k, weighbridgeref05_Name_p.f k a0 = some r := by
  refine ⟨7, ?_⟩
  rw [← h]
  exact r5_name_loop a0 6 0 (by omega) 7 (by omega)
theorem weighbridgeref05_Name.calls (a0 : Int) (r : ByteArray) (w : World) (h : weighbridgeref05_Name.f a0 = some r) :
    Calls Try.prog 19 #[.int .i64 a0] w fun e w' => e = .returned (.string r) ∧ Drawn0 w w' := by
  obtain ⟨k, hk⟩ := weighbridgeref05_Name_ev a0 _ h
  exact weighbridgeref05_Name_p.calls k a0 r w hk

/-! ### weighbridgeref05_get: function 27 -/
def weighbridgeref05_get.f (a0 : ByteArray) (a1 : Int) (a2 : Int) : Option (Int) := (weighbridgeref01_Get.f a0 a1 a2).bind fun bt189 => (some bt189.1)
set_option maxHeartbeats 8000000 in
set_option maxRecDepth 100000 in
theorem weighbridgeref05_get.calls (a0 : ByteArray) (a1 : Int) (a2 : Int) (r : Int) (w : World) (h : weighbridgeref05_get.f a0 a1 a2 = some r) :
    Calls Try.prog 27 #[.string a0, .int .i64 a1, .int .i64 a2] w fun e w' => e = .returned (.int .i64 r) ∧ Drawn0 w w' := by
  have H : ((weighbridgeref01_Get.f a0 a1 a2).bind fun bt189 => (some bt189.1)) = some r := h
  clear h
  replace H := Option.bind_eq_some_iff.mp H
  obtain ⟨⟨t189, t190⟩, A40, H⟩ := H
  replace H : (some t189) = some r := H
  have A4 := Aside0.mk A40
  clear A40
  obtain rfl := Option.some.inj H
  go_enter Try.func27, Try.ntmps27
  go_wp2_with (first | ((with_reducible refine gate_callee (f := 31) rfl ?_); refine goesL_ (some 13) rfl rfl Try.func31 (by kernel_rfl) rfl #[.string a0, .int .i64 a1, .int .i64 a2] rfl (by (try simp only [List.map_toArray, List.map_cons, List.map_nil]); first | done | rfl | (simp only [List.length_drop, List.length_take]; rfl)) ?_; (with_reducible refine (weighbridgeref01_Get.calls a0 a1 a2 t189 t190 _ A4.out).mono ?_); rintro e w' ⟨rfl, ⟨nd, rfl⟩⟩; refine ⟨_, rfl, ?_⟩))
  go_ret
  exact ⟨by first | rfl | (simp; done) | (simp [*]; done), by repeat (first | exact Drawn0.refl _ | apply Drawn0.step)⟩

/-! ### weighbridgeref05_Parse_p: function 21 -/
def weighbridgeref05_Parse_p.j0 : Nat → ByteArray → Int → Bool → Option (Int × Int × Int × Int × Int × Int × Int × ByteArray × ByteArray × Int)
  | 0, _, _, _ => none
  | k + 1, x0, x5, x23 => if x23 = true then (some (0, 0, 0, 0, 0, 0, 0, (⟨#[]⟩ : ByteArray), (⟨#[]⟩ : ByteArray), 4)) else (if 20 ≤ x5 then (if x5 ≤ (x0.size : Int) then ((weighbridgeref04_OptsRight.f (x0.extract 20 (x5 : Int).toNat)).bind fun t192 => (if t192 = true then ((weighbridgeref05_get.f x0 0 2).bind fun t193 => ((weighbridgeref05_get.f x0 2 2).bind fun t194 => ((weighbridgeref05_get.f x0 4 4).bind fun t195 => ((weighbridgeref05_get.f x0 8 4).bind fun t196 => ((weighbridgeref05_get.f x0 12 2).bind fun t197 => ((weighbridgeref05_get.f x0 14 2).bind fun t198 => ((weighbridgeref05_get.f x0 18 2).bind fun t199 => (if 0 ≤ x5 then (some (t193, t194, (t195) % 4294967296, (t196) % 4294967296, Int.tmod t197 4096, t198, t199, x0.extract 20 (x5 : Int).toNat, x0.extract (x5 : Int).toNat x0.size, 0)) else (none))))))))) else (some (0, 0, 0, 0, 0, 0, 0, (⟨#[]⟩ : ByteArray), (⟨#[]⟩ : ByteArray), 6)))) else (none)) else (none))
def weighbridgeref05_Parse_p.f (k : Nat) (a0 : ByteArray) : Option (Int × Int × Int × Int × Int × Int × Int × ByteArray × ByteArray × Int) := if (a0.size : Int) < 20 then (some (0, 0, 0, 0, 0, 0, 0, (⟨#[]⟩ : ByteArray), (⟨#[]⟩ : ByteArray), 2)) else (if 12 < (a0.size : Int) then (if (4 * ((Int.tdiv (bt a0 12) 16) % 256)) < 20 then (weighbridgeref05_Parse_p.j0 k a0 (4 * ((Int.tdiv (bt a0 12) 16) % 256)) true) else (weighbridgeref05_Parse_p.j0 k a0 (4 * ((Int.tdiv (bt a0 12) 16) % 256)) (decide ((4 * ((Int.tdiv (bt a0 12) 16) % 256)) > (a0.size : Int))))) else (none))
theorem weighbridgeref05_Parse_p.mono_l : ∀ k, (∀ y0 y1 y2, LeO (weighbridgeref05_Parse_p.j0 k y0 y1 y2) (weighbridgeref05_Parse_p.j0 (k + 1) y0 y1 y2))
  | 0 => fun _ _ _ r h => by simp [weighbridgeref05_Parse_p.j0] at h
  | k + 1 => by
    have ih0 := weighbridgeref05_Parse_p.mono_l k
    · intro y0 y1 y2
      unfold weighbridgeref05_Parse_p.j0
      repeat' first
      | (with_reducible exact ih0 _ _ _)
      | (with_reducible exact LeO.refl _)
      | (with_reducible exact LeO.none _)
      | (with_reducible refine LeO.ite ?_ ?_)
      | (with_reducible refine LeO.bind ?_ (fun _ => ?_))
      | exact ih0 _ _ _
      | exact LeO.none _
      | refine LeO.ite ?_ ?_
      | refine LeO.bind ?_ (fun _ => ?_)
theorem weighbridgeref05_Parse_p.mono : ∀ a0 k, LeO (weighbridgeref05_Parse_p.f k a0) (weighbridgeref05_Parse_p.f (k + 1) a0) := by
  intro a0 k
  have ih0 := weighbridgeref05_Parse_p.mono_l k
  unfold weighbridgeref05_Parse_p.f
  repeat' first
      | (with_reducible exact ih0 _ _ _)
      | (with_reducible exact LeO.refl _)
      | (with_reducible exact LeO.none _)
      | (with_reducible refine LeO.ite ?_ ?_)
      | (with_reducible refine LeO.bind ?_ (fun _ => ?_))
      | exact ih0 _ _ _
      | exact LeO.none _
      | refine LeO.ite ?_ ?_
      | refine LeO.bind ?_ (fun _ => ?_)
def weighbridgeref05_Parse_p.T9 : Bool × List (List Nat × List Nat) := (true, [([], []), ([0], [0]), ([], []), ([2, 1], [2]), ([], []), ([4, 3], [4]), ([5], [5]), ([], []), ([7, 5], [7]), ([8], [8]), ([], []), ([10, 8], [10]), ([11], [11]), ([], []), ([13, 11], [13]), ([], []), ([15, 14], [15]), ([], []), ([], []), ([17, 18], [17, 18]), ([1, 3, 6, 9, 12, 14, 16, 19], [1, 3, 6, 9, 12, 14, 16, 19]), ([], []), ([], []), ([21, 22], [21, 22]), ([20, 16, 0, 1, 2, 3, 4, 5, 6, 7, 8, 9, 10, 11, 12, 13, 14, 15, 16, 17, 18, 19, 20], [20]), ([23, 24, 0, 1, 2, 3, 4, 5, 6, 7, 8, 9, 10, 11, 12, 13, 14, 15, 16, 17, 18, 19, 20, 21, 22, 23, 24], [23]), ([25, 0, 1, 2, 3, 4, 5, 6, 7, 8, 9, 10, 11, 12, 13, 14, 15, 16, 17, 18, 19, 20, 21, 22, 23, 24, 25], [])])
def weighbridgeref05_Parse_p.B9 : List Nat := [0, 1, 0, 7, 0, 31, 63, 0, 191, 447, 0, 1471, 3519, 0, 11711, 0, 60863, 0, 0, 393216, 1048575, 0, 0, 6291456, 2097151, 33554431, 67108863]
theorem weighbridgeref05_Parse_p.tab9 : rtab .any (opsOf Try.f21 9) = weighbridgeref05_Parse_p.T9 := by kernel_rfl
theorem weighbridgeref05_Parse_p.bits9 : waitsOk weighbridgeref05_Parse_p.T9.2 weighbridgeref05_Parse_p.B9 = true := by kernel_rfl
set_option maxHeartbeats 8000000 in
set_option maxRecDepth 100000 in
theorem weighbridgeref05_Parse_p.calls (k : Nat) (a0 : ByteArray) (r1 : Int) (r2 : Int) (r3 : Int) (r4 : Int) (r5 : Int) (r6 : Int) (r7 : Int) (r8 : ByteArray) (r9 : ByteArray) (r10 : Int) (w : World) (h : weighbridgeref05_Parse_p.f k a0 = some (r1, r2, r3, r4, r5, r6, r7, r8, r9, r10)) :
    Calls Try.prog 21 #[.string a0] w fun e w' => e = .returned (.tuple #[.agg #[.int .i64 r1, .int .i64 r2, .int .u32 r3, .int .u32 r4, .int .i64 r5, .int .i64 r6, .int .i64 r7, .string r8], .string r9, .int .i64 r10]) ∧ Below w.heap.size w w' := by
  have hu31 := Try.underlying31
  have HB := Aside0.mk (Below.refl w.heap.size w)
  have H : (if (a0.size : Int) < 20 then (some (0, 0, 0, 0, 0, 0, 0, (⟨#[]⟩ : ByteArray), (⟨#[]⟩ : ByteArray), 2)) else (if 12 < (a0.size : Int) then (if (4 * ((Int.tdiv (bt a0 12) 16) % 256)) < 20 then (weighbridgeref05_Parse_p.j0 k a0 (4 * ((Int.tdiv (bt a0 12) 16) % 256)) true) else (weighbridgeref05_Parse_p.j0 k a0 (4 * ((Int.tdiv (bt a0 12) 16) % 256)) (decide ((4 * ((Int.tdiv (bt a0 12) 16) % 256)) > (a0.size : Int))))) else (none))) = some (r1, r2, r3, r4, r5, r6, r7, r8, r9, r10) := h
  clear h
  by_cases c2 : (a0.size : Int) < 20
  · rw [if_pos c2] at H
    have c2b0 : decide ((a0.size : Int) < 20) = true := decide_eq_true c2
    have c2b1 : decide (a0.size < 20) = true := decide_eq_true (by omega)
    clear c2
    simp only [Option.some.injEq, Prod.mk.injEq] at H
    obtain ⟨rfl, rfl, rfl, rfl, rfl, rfl, rfl, rfl, rfl, rfl⟩ := H
    go_enter Try.func21, Try.ntmps21
    go_wp2_with (first | ((with_reducible refine gate_dst (N := 2) rfl ?_); (try (refine gate_guard (by rfl) ?_; dsimp only)); refine box_event ?hg (N := 2) ?hd (cs := #[.int .i64 0, .int .i64 0, .int .u32 0, .int .u32 0, .int .i64 0, .int .i64 0, .int .i64 0, .string (⟨#[]⟩ : ByteArray)]) (t := 31) ?hr ?_; (case hd => rfl); (case hg => rfl); (case hr => first | (go_simp; done) | (go_simp; rfl)); intro gb191 hg w3 hbox hb; have n0_ := Aside0.mk (below_step (by repeat (first | (with_reducible first | exact HB.out | apply below_alloc | apply pw_below_drewN | apply below_drew1) | exact HB.out)) hb); have n1_ := Aside0.mk (hbox); have n2_ := Aside0.mk ((by rw [hg]; exact (below_size (by repeat (first | (with_reducible first | exact HB.out | apply below_alloc | apply pw_below_drewN | apply below_drew1) | exact HB.out))) : w.heap.size ≤ gb191)); have n3_ := Aside0.mk ((by rw [hg]; exact (below_size (by repeat (first | (with_reducible first | exact HB.out | apply below_alloc | apply pw_below_drewN | apply below_drew1) | exact HB.out))) : w.heap.size ≤ gb191)); clear HB; have HB := n0_; have BK191 := n1_; have GW191 := n2_; have GE191 := n3_; clear n0_ n1_ n2_ n3_; clear hb hbox hg; have hcz4_0 : w3.cell? ⟨gb191, 0, none⟩ = some (.int .i64 0) := (blk_cell BK191.out 0).trans rfl; have hcz4_1 : w3.cell? ⟨gb191, 1, none⟩ = some (.int .i64 0) := (blk_cell BK191.out 1).trans rfl; have hcz4_2 : w3.cell? ⟨gb191, 2, none⟩ = some (.int .u32 0) := (blk_cell BK191.out 2).trans rfl; have hcz4_3 : w3.cell? ⟨gb191, 3, none⟩ = some (.int .u32 0) := (blk_cell BK191.out 3).trans rfl; have hcz4_4 : w3.cell? ⟨gb191, 4, none⟩ = some (.int .i64 0) := (blk_cell BK191.out 4).trans rfl; have hcz4_5 : w3.cell? ⟨gb191, 5, none⟩ = some (.int .i64 0) := (blk_cell BK191.out 5).trans rfl; have hcz4_6 : w3.cell? ⟨gb191, 6, none⟩ = some (.int .i64 0) := (blk_cell BK191.out 6).trans rfl; have hcz4_7 : w3.cell? ⟨gb191, 7, none⟩ = some (.string (⟨#[]⟩ : ByteArray)) := (blk_cell BK191.out 7).trans rfl; have hfz4_0 := blk_frozen BK191.out 0; have hfz4_1 := blk_frozen BK191.out 1; have hfz4_2 := blk_frozen BK191.out 2; have hfz4_3 := blk_frozen BK191.out 3; have hfz4_4 := blk_frozen BK191.out 4; have hfz4_5 := blk_frozen BK191.out 5; have hfz4_6 := blk_frozen BK191.out 6; have hfz4_7 := blk_frozen BK191.out 7))
    refine bodyPost_ret (results_ctt rfl _ _ gb191 31 #[.int .i64 0, .int .i64 0, .int .u32 0, .int .u32 0, .int .i64 0, .int .i64 0, .int .i64 0, .string (⟨#[]⟩ : ByteArray)] (0, 0) _ rfl (by (with_reducible repeat (first | refine blk_drewN ?_ _ | refine blk_drew ?_ | refine blk_alloc ?_ _)); refine blk_put (cs := #[.int .i64 0, .int .i64 0, .int .u32 0, .int .u32 0, .int .i64 0, .int .i64 0, .int .i64 0, .string (⟨#[]⟩ : ByteArray)]) ?_ 7 _ rfl; (with_reducible repeat (first | refine blk_drewN ?_ _ | refine blk_drew ?_ | refine blk_alloc ?_ _)); refine blk_put (cs := #[.int .i64 0, .int .i64 0, .int .u32 0, .int .u32 0, .int .i64 0, .int .i64 0, .int .i64 0, .string (⟨#[]⟩ : ByteArray)]) ?_ 6 _ rfl; (with_reducible repeat (first | refine blk_drewN ?_ _ | refine blk_drew ?_ | refine blk_alloc ?_ _)); refine blk_put (cs := #[.int .i64 0, .int .i64 0, .int .u32 0, .int .u32 0, .int .i64 0, .int .i64 0, .int .i64 0, .string (⟨#[]⟩ : ByteArray)]) ?_ 5 _ rfl; (with_reducible repeat (first | refine blk_drewN ?_ _ | refine blk_drew ?_ | refine blk_alloc ?_ _)); refine blk_put (cs := #[.int .i64 0, .int .i64 0, .int .u32 0, .int .u32 0, .int .i64 0, .int .i64 0, .int .i64 0, .string (⟨#[]⟩ : ByteArray)]) ?_ 4 _ rfl; (with_reducible repeat (first | refine blk_drewN ?_ _ | refine blk_drew ?_ | refine blk_alloc ?_ _)); refine blk_put (cs := #[.int .i64 0, .int .i64 0, .int .u32 0, .int .u32 0, .int .i64 0, .int .i64 0, .int .i64 0, .string (⟨#[]⟩ : ByteArray)]) ?_ 3 _ rfl; (with_reducible repeat (first | refine blk_drewN ?_ _ | refine blk_drew ?_ | refine blk_alloc ?_ _)); refine blk_put (cs := #[.int .i64 0, .int .i64 0, .int .u32 0, .int .u32 0, .int .i64 0, .int .i64 0, .int .i64 0, .string (⟨#[]⟩ : ByteArray)]) ?_ 2 _ rfl; (with_reducible repeat (first | refine blk_drewN ?_ _ | refine blk_drew ?_ | refine blk_alloc ?_ _)); refine blk_put (cs := #[.int .i64 0, .int .i64 0, .int .u32 0, .int .u32 0, .int .i64 0, .int .i64 0, .int .i64 0, .string (⟨#[]⟩ : ByteArray)]) ?_ 1 _ rfl; (with_reducible repeat (first | refine blk_drewN ?_ _ | refine blk_drew ?_ | refine blk_alloc ?_ _)); refine blk_put (cs := #[.int .i64 0, .int .i64 0, .int .u32 0, .int .u32 0, .int .i64 0, .int .i64 0, .int .i64 0, .string (⟨#[]⟩ : ByteArray)]) ?_ 0 _ rfl; (with_reducible repeat (first | refine blk_drewN ?_ _ | refine blk_drew ?_ | refine blk_alloc ?_ _)); exact BK191.out) Try.underlying31 rfl (by kernel_rfl)) rfl ?_
    exact ⟨by first | rfl | (simp [errW_none, errW_some] <;> rfl) | (simp [*, errW_none, errW_some] <;> rfl), by repeat (first | (with_reducible first | exact HB.out | apply below_alloc | apply pw_below_drewN | apply below_drew1 | refine below_set ?_ GE191.out) | exact HB.out)⟩
  · rw [if_neg c2] at H
    have c2b0 : decide ((a0.size : Int) < 20) = false := decide_eq_false c2
    have c2b1 : decide (a0.size < 20) = false := decide_eq_false (by omega)
    clear c2
    by_cases c5 : 12 < (a0.size : Int)
    · rw [if_pos c5] at H
      have c5b0 : decide (12 < (a0.size : Int)) = true := decide_eq_true c5
      have c5b1 : decide (12 < a0.size) = true := decide_eq_true (by omega)
      clear c5
      have HC7 := Aside0.mk H
      clear H
      go_enter Try.func21, Try.ntmps21
      go_upto_region 4 with (first | ((with_reducible refine gate_dst (N := 2) rfl ?_); (try (refine gate_guard (by rfl) ?_; dsimp only)); refine box_event ?hg (N := 2) ?hd (cs := #[.int .i64 0, .int .i64 0, .int .u32 0, .int .u32 0, .int .i64 0, .int .i64 0, .int .i64 0, .string (⟨#[]⟩ : ByteArray)]) (t := 31) ?hr ?_; (case hd => rfl); (case hg => rfl); (case hr => first | (go_simp; done) | (go_simp; rfl)); intro gb191 hg w8 hbox hb; have n0_ := Aside0.mk (below_step (by repeat (first | (with_reducible first | exact HB.out | apply below_alloc | apply pw_below_drewN | apply below_drew1) | exact HB.out)) hb); have n1_ := Aside0.mk (hbox); have n2_ := Aside0.mk ((by rw [hg]; exact (below_size (by repeat (first | (with_reducible first | exact HB.out | apply below_alloc | apply pw_below_drewN | apply below_drew1) | exact HB.out))) : w.heap.size ≤ gb191)); have n3_ := Aside0.mk ((by rw [hg]; exact (below_size (by repeat (first | (with_reducible first | exact HB.out | apply below_alloc | apply pw_below_drewN | apply below_drew1) | exact HB.out))) : w.heap.size ≤ gb191)); clear HB; have HB := n0_; have BK191 := n1_; have GW191 := n2_; have GE191 := n3_; clear n0_ n1_ n2_ n3_; clear hb hbox hg; have p6 : 0 ≤ (12 : Int) := (by omega); have q6 : 12 < a0.size := (by have : (12 : Int) < (a0.size : Int) := of_decide_eq_true (by first | (with_reducible assumption) | assumption); omega); have hx6 : ∀ h : 12 < a0.size, ((a0[12]'h).toNat : Int) = bt a0 12 := bt_at a0 12; clear p6; have qi6 : (12 < (a0.size : Int)) = True := eq_true (of_decide_eq_true (by first | (with_reducible assumption) | assumption)); replace q6 := eq_true q6))
      (try simp only [Act.put, List.setIfInBounds_toArray, List.set_cons_zero, List.set_cons_succ])
      go_cut [23] (fun v23 wc => ∃ (kq : Nat) (x23_6 : Bool), v23 = .bool x23_6 ∧ Aside0 (weighbridgeref05_Parse_p.j0 kq a0 (4 * ((Int.tdiv (bt a0 12) 16) % 256)) x23_6 = some (r1, r2, r3, r4, r5, r6, r7, r8, r9, r10)) ∧ Aside0 (kq ≤ k) ∧ Aside0 (wc.heap[gb191]? = some (.cells #[.int .i64 0, .int .i64 0, .int .u32 0, .int .u32 0, .int .i64 0, .int .i64 0, .int .i64 0, .string (⟨#[]⟩ : ByteArray)] 31 (0, 0))) ∧ Aside0 (Below w.heap.size w wc))
      case first =>
        have H := HC7.out
        clear HC7
        by_cases c9 : (4 * ((Int.tdiv (bt a0 12) 16) % 256)) < 20
        · rw [if_pos c9] at H
          have c9b0 : decide ((4 * ((Int.tdiv (bt a0 12) 16) % 256)) < 20) = true := decide_eq_true c9
          clear c9
          (first | rw [c9b0] | (simp only [i64_w, i32_w]; rw [c9b0]) | skip)
          have H' := Aside0.mk H
          clear H
          go_wp2
          go_meet
          case rel => exact ⟨_, (true), (by first | rfl | (simp; done) | (congr 2; simp only [ByteArray.size_extract, ByteArray.size_append]; (try unfold wrap64); omega) | (simp only [ByteArray.size_extract, ByteArray.size_append, Nat.sub_zero]; done) | (congr 1; simp only [ByteArray.size_extract, ByteArray.size_append, Nat.sub_zero]; omega) | (simp [*]; done)), H', ⟨by first | omega | exact Nat.le_refl _⟩, ⟨by (with_reducible repeat (first | refine blk_drewN ?_ _ | refine blk_drew ?_ | refine blk_alloc ?_ _)); exact BK191.out⟩, ⟨by repeat (first | (with_reducible first | exact HB.out | apply below_alloc | apply pw_below_drewN | apply below_drew1 | refine below_set ?_ GE191.out) | exact HB.out)⟩⟩
        · rw [if_neg c9] at H
          have c9b0 : decide ((4 * ((Int.tdiv (bt a0 12) 16) % 256)) < 20) = false := decide_eq_false c9
          clear c9
          (first | rw [c9b0] | (simp only [i64_w, i32_w]; rw [c9b0]) | skip)
          have H' := Aside0.mk H
          clear H
          go_wp2
          go_meet
          case rel => exact ⟨_, (decide ((4 * ((Int.tdiv (bt a0 12) 16) % 256)) > (a0.size : Int))), (by first | rfl | (simp; done) | (congr 2; simp only [ByteArray.size_extract, ByteArray.size_append]; (try unfold wrap64); omega) | (simp only [ByteArray.size_extract, ByteArray.size_append, Nat.sub_zero]; done) | (congr 1; simp only [ByteArray.size_extract, ByteArray.size_append, Nat.sub_zero]; omega) | (simp [*]; done)), H', ⟨by first | omega | exact Nat.le_refl _⟩, ⟨by (with_reducible repeat (first | refine blk_drewN ?_ _ | refine blk_drew ?_ | refine blk_alloc ?_ _)); exact BK191.out⟩, ⟨by repeat (first | (with_reducible first | exact HB.out | apply below_alloc | apply pw_below_drewN | apply below_drew1 | refine below_set ?_ GE191.out) | exact HB.out)⟩⟩
      case rest =>
        clear HC7
        try clear c2
        try clear c2b0
        try clear c2b1
        try clear p2
        try clear c5
        try clear c5b0
        try clear c5b1
        try clear p6
        try clear q6
        try clear hx6
        try clear qi6
        try clear c9
        try clear c9b0
        try clear hcz4_0
        try clear hcz4_1
        try clear hcz4_2
        try clear hcz4_3
        try clear hcz4_4
        try clear hcz4_5
        try clear hcz4_6
        try clear hcz4_7
        try clear hfz4_0
        try clear hfz4_1
        try clear hfz4_2
        try clear hfz4_3
        try clear hfz4_4
        try clear hfz4_5
        try clear hfz4_6
        try clear hfz4_7
        try clear p6
        try clear q6
        obtain ⟨kq, x23_6, rfl, HA, HJ6, BK191, HB⟩ := hcut
        cases kq with
        | zero => exact absurd HA.out (by simp [weighbridgeref05_Parse_p.j0])
        | succ kj6 =>
          have H := HA.out
          clear HA
          simp only [weighbridgeref05_Parse_p.j0] at H
          by_cases c10 : x23_6 = true
          · subst c10
            have H1 : (some (0, 0, 0, 0, 0, 0, 0, (⟨#[]⟩ : ByteArray), (⟨#[]⟩ : ByteArray), 4)) = some (r1, r2, r3, r4, r5, r6, r7, r8, r9, r10) := by first | (rw [if_pos rfl] at H; exact H) | (rw [if_pos trivial] at H; exact H)
            clear H
            have H := H1
            clear H1
            simp only [Option.some.injEq, Prod.mk.injEq] at H
            obtain ⟨rfl, rfl, rfl, rfl, rfl, rfl, rfl, rfl, rfl, rfl⟩ := H
            have hcz11_0 : wc.cell? ⟨gb191, 0, none⟩ = some (.int .i64 0) := (blk_cell BK191.out 0).trans rfl
            have hcz11_1 : wc.cell? ⟨gb191, 1, none⟩ = some (.int .i64 0) := (blk_cell BK191.out 1).trans rfl
            have hcz11_2 : wc.cell? ⟨gb191, 2, none⟩ = some (.int .u32 0) := (blk_cell BK191.out 2).trans rfl
            have hcz11_3 : wc.cell? ⟨gb191, 3, none⟩ = some (.int .u32 0) := (blk_cell BK191.out 3).trans rfl
            have hcz11_4 : wc.cell? ⟨gb191, 4, none⟩ = some (.int .i64 0) := (blk_cell BK191.out 4).trans rfl
            have hcz11_5 : wc.cell? ⟨gb191, 5, none⟩ = some (.int .i64 0) := (blk_cell BK191.out 5).trans rfl
            have hcz11_6 : wc.cell? ⟨gb191, 6, none⟩ = some (.int .i64 0) := (blk_cell BK191.out 6).trans rfl
            have hcz11_7 : wc.cell? ⟨gb191, 7, none⟩ = some (.string (⟨#[]⟩ : ByteArray)) := (blk_cell BK191.out 7).trans rfl
            have hfz11_0 := blk_frozen BK191.out 0
            have hfz11_1 := blk_frozen BK191.out 1
            have hfz11_2 := blk_frozen BK191.out 2
            have hfz11_3 := blk_frozen BK191.out 3
            have hfz11_4 := blk_frozen BK191.out 4
            have hfz11_5 := blk_frozen BK191.out 5
            have hfz11_6 := blk_frozen BK191.out 6
            have hfz11_7 := blk_frozen BK191.out 7
            go_wp2
            refine bodyPost_ret (results_ctt rfl _ _ gb191 31 #[.int .i64 0, .int .i64 0, .int .u32 0, .int .u32 0, .int .i64 0, .int .i64 0, .int .i64 0, .string (⟨#[]⟩ : ByteArray)] (0, 0) _ rfl (by (with_reducible repeat (first | refine blk_drewN ?_ _ | refine blk_drew ?_ | refine blk_alloc ?_ _)); refine blk_put (cs := #[.int .i64 0, .int .i64 0, .int .u32 0, .int .u32 0, .int .i64 0, .int .i64 0, .int .i64 0, .string (⟨#[]⟩ : ByteArray)]) ?_ 7 _ rfl; (with_reducible repeat (first | refine blk_drewN ?_ _ | refine blk_drew ?_ | refine blk_alloc ?_ _)); refine blk_put (cs := #[.int .i64 0, .int .i64 0, .int .u32 0, .int .u32 0, .int .i64 0, .int .i64 0, .int .i64 0, .string (⟨#[]⟩ : ByteArray)]) ?_ 6 _ rfl; (with_reducible repeat (first | refine blk_drewN ?_ _ | refine blk_drew ?_ | refine blk_alloc ?_ _)); refine blk_put (cs := #[.int .i64 0, .int .i64 0, .int .u32 0, .int .u32 0, .int .i64 0, .int .i64 0, .int .i64 0, .string (⟨#[]⟩ : ByteArray)]) ?_ 5 _ rfl; (with_reducible repeat (first | refine blk_drewN ?_ _ | refine blk_drew ?_ | refine blk_alloc ?_ _)); refine blk_put (cs := #[.int .i64 0, .int .i64 0, .int .u32 0, .int .u32 0, .int .i64 0, .int .i64 0, .int .i64 0, .string (⟨#[]⟩ : ByteArray)]) ?_ 4 _ rfl; (with_reducible repeat (first | refine blk_drewN ?_ _ | refine blk_drew ?_ | refine blk_alloc ?_ _)); refine blk_put (cs := #[.int .i64 0, .int .i64 0, .int .u32 0, .int .u32 0, .int .i64 0, .int .i64 0, .int .i64 0, .string (⟨#[]⟩ : ByteArray)]) ?_ 3 _ rfl; (with_reducible repeat (first | refine blk_drewN ?_ _ | refine blk_drew ?_ | refine blk_alloc ?_ _)); refine blk_put (cs := #[.int .i64 0, .int .i64 0, .int .u32 0, .int .u32 0, .int .i64 0, .int .i64 0, .int .i64 0, .string (⟨#[]⟩ : ByteArray)]) ?_ 2 _ rfl; (with_reducible repeat (first | refine blk_drewN ?_ _ | refine blk_drew ?_ | refine blk_alloc ?_ _)); refine blk_put (cs := #[.int .i64 0, .int .i64 0, .int .u32 0, .int .u32 0, .int .i64 0, .int .i64 0, .int .i64 0, .string (⟨#[]⟩ : ByteArray)]) ?_ 1 _ rfl; (with_reducible repeat (first | refine blk_drewN ?_ _ | refine blk_drew ?_ | refine blk_alloc ?_ _)); refine blk_put (cs := #[.int .i64 0, .int .i64 0, .int .u32 0, .int .u32 0, .int .i64 0, .int .i64 0, .int .i64 0, .string (⟨#[]⟩ : ByteArray)]) ?_ 0 _ rfl; (with_reducible repeat (first | refine blk_drewN ?_ _ | refine blk_drew ?_ | refine blk_alloc ?_ _)); exact BK191.out) Try.underlying31 rfl (by kernel_rfl)) rfl ?_
            exact ⟨by first | rfl | (simp [errW_none, errW_some] <;> rfl) | (simp [*, errW_none, errW_some] <;> rfl), by repeat (first | (with_reducible first | exact HB.out | apply below_alloc | apply pw_below_drewN | apply below_drew1 | refine below_set ?_ GE191.out) | exact HB.out)⟩
          · replace c10 := Bool.eq_false_iff.mpr c10
            subst c10
            have H1 : (if 20 ≤ (4 * ((Int.tdiv (bt a0 12) 16) % 256)) then (if (4 * ((Int.tdiv (bt a0 12) 16) % 256)) ≤ (a0.size : Int) then ((weighbridgeref04_OptsRight.f (a0.extract 20 ((4 * ((Int.tdiv (bt a0 12) 16) % 256)) : Int).toNat)).bind fun t192 => (if t192 = true then ((weighbridgeref05_get.f a0 0 2).bind fun t193 => ((weighbridgeref05_get.f a0 2 2).bind fun t194 => ((weighbridgeref05_get.f a0 4 4).bind fun t195 => ((weighbridgeref05_get.f a0 8 4).bind fun t196 => ((weighbridgeref05_get.f a0 12 2).bind fun t197 => ((weighbridgeref05_get.f a0 14 2).bind fun t198 => ((weighbridgeref05_get.f a0 18 2).bind fun t199 => (if 0 ≤ (4 * ((Int.tdiv (bt a0 12) 16) % 256)) then (some (t193, t194, (t195) % 4294967296, (t196) % 4294967296, Int.tmod t197 4096, t198, t199, a0.extract 20 ((4 * ((Int.tdiv (bt a0 12) 16) % 256)) : Int).toNat, a0.extract ((4 * ((Int.tdiv (bt a0 12) 16) % 256)) : Int).toNat a0.size, 0)) else (none))))))))) else (some (0, 0, 0, 0, 0, 0, 0, (⟨#[]⟩ : ByteArray), (⟨#[]⟩ : ByteArray), 6)))) else (none)) else (none)) = some (r1, r2, r3, r4, r5, r6, r7, r8, r9, r10) := by rw [if_neg (show ¬ (false = true) by decide)] at H; exact H
            clear H
            have H := H1
            clear H1
            by_cases c12 : 20 ≤ (4 * ((Int.tdiv (bt a0 12) 16) % 256))
            · rw [if_pos c12] at H
              have c12b0 := eq_true c12
              have c12b1 : decide (20 ≤ (4 * ((Int.tdiv (bt a0 12) 16) % 256))) = true := decide_eq_true c12
              clear c12
              by_cases c13 : (4 * ((Int.tdiv (bt a0 12) 16) % 256)) ≤ (a0.size : Int)
              · rw [if_pos c13] at H
                have c13b0 := eq_true c13
                have c13b1 : decide ((4 * ((Int.tdiv (bt a0 12) 16) % 256)) ≤ (a0.size : Int)) = true := decide_eq_true c13
                clear c13
                replace H := Option.bind_eq_some_iff.mp H
                obtain ⟨t192, A140, H⟩ := H
                replace H : (if t192 = true then ((weighbridgeref05_get.f a0 0 2).bind fun t193 => ((weighbridgeref05_get.f a0 2 2).bind fun t194 => ((weighbridgeref05_get.f a0 4 4).bind fun t195 => ((weighbridgeref05_get.f a0 8 4).bind fun t196 => ((weighbridgeref05_get.f a0 12 2).bind fun t197 => ((weighbridgeref05_get.f a0 14 2).bind fun t198 => ((weighbridgeref05_get.f a0 18 2).bind fun t199 => (if 0 ≤ (4 * ((Int.tdiv (bt a0 12) 16) % 256)) then (some (t193, t194, (t195) % 4294967296, (t196) % 4294967296, Int.tmod t197 4096, t198, t199, a0.extract 20 ((4 * ((Int.tdiv (bt a0 12) 16) % 256)) : Int).toNat, a0.extract ((4 * ((Int.tdiv (bt a0 12) 16) % 256)) : Int).toNat a0.size, 0)) else (none))))))))) else (some (0, 0, 0, 0, 0, 0, 0, (⟨#[]⟩ : ByteArray), (⟨#[]⟩ : ByteArray), 6))) = some (r1, r2, r3, r4, r5, r6, r7, r8, r9, r10) := H
                have A14 := Aside0.mk A140
                clear A140
                by_cases c15 : t192 = true
                · subst c15
                  have H1 : ((weighbridgeref05_get.f a0 0 2).bind fun t193 => ((weighbridgeref05_get.f a0 2 2).bind fun t194 => ((weighbridgeref05_get.f a0 4 4).bind fun t195 => ((weighbridgeref05_get.f a0 8 4).bind fun t196 => ((weighbridgeref05_get.f a0 12 2).bind fun t197 => ((weighbridgeref05_get.f a0 14 2).bind fun t198 => ((weighbridgeref05_get.f a0 18 2).bind fun t199 => (if 0 ≤ (4 * ((Int.tdiv (bt a0 12) 16) % 256)) then (some (t193, t194, (t195) % 4294967296, (t196) % 4294967296, Int.tmod t197 4096, t198, t199, a0.extract 20 ((4 * ((Int.tdiv (bt a0 12) 16) % 256)) : Int).toNat, a0.extract ((4 * ((Int.tdiv (bt a0 12) 16) % 256)) : Int).toNat a0.size, 0)) else (none))))))))) = some (r1, r2, r3, r4, r5, r6, r7, r8, r9, r10) := by first | (rw [if_pos rfl] at H; exact H) | (rw [if_pos trivial] at H; exact H)
                  clear H
                  have H := H1
                  clear H1
                  replace H := Option.bind_eq_some_iff.mp H
                  obtain ⟨t193, A160, H⟩ := H
                  replace H : ((weighbridgeref05_get.f a0 2 2).bind fun t194 => ((weighbridgeref05_get.f a0 4 4).bind fun t195 => ((weighbridgeref05_get.f a0 8 4).bind fun t196 => ((weighbridgeref05_get.f a0 12 2).bind fun t197 => ((weighbridgeref05_get.f a0 14 2).bind fun t198 => ((weighbridgeref05_get.f a0 18 2).bind fun t199 => (if 0 ≤ (4 * ((Int.tdiv (bt a0 12) 16) % 256)) then (some (t193, t194, (t195) % 4294967296, (t196) % 4294967296, Int.tmod t197 4096, t198, t199, a0.extract 20 ((4 * ((Int.tdiv (bt a0 12) 16) % 256)) : Int).toNat, a0.extract ((4 * ((Int.tdiv (bt a0 12) 16) % 256)) : Int).toNat a0.size, 0)) else (none)))))))) = some (r1, r2, r3, r4, r5, r6, r7, r8, r9, r10) := H
                  have A16 := Aside0.mk A160
                  clear A160
                  replace H := Option.bind_eq_some_iff.mp H
                  obtain ⟨t194, A170, H⟩ := H
                  replace H : ((weighbridgeref05_get.f a0 4 4).bind fun t195 => ((weighbridgeref05_get.f a0 8 4).bind fun t196 => ((weighbridgeref05_get.f a0 12 2).bind fun t197 => ((weighbridgeref05_get.f a0 14 2).bind fun t198 => ((weighbridgeref05_get.f a0 18 2).bind fun t199 => (if 0 ≤ (4 * ((Int.tdiv (bt a0 12) 16) % 256)) then (some (t193, t194, (t195) % 4294967296, (t196) % 4294967296, Int.tmod t197 4096, t198, t199, a0.extract 20 ((4 * ((Int.tdiv (bt a0 12) 16) % 256)) : Int).toNat, a0.extract ((4 * ((Int.tdiv (bt a0 12) 16) % 256)) : Int).toNat a0.size, 0)) else (none))))))) = some (r1, r2, r3, r4, r5, r6, r7, r8, r9, r10) := H
                  have A17 := Aside0.mk A170
                  clear A170
                  replace H := Option.bind_eq_some_iff.mp H
                  obtain ⟨t195, A180, H⟩ := H
                  replace H : ((weighbridgeref05_get.f a0 8 4).bind fun t196 => ((weighbridgeref05_get.f a0 12 2).bind fun t197 => ((weighbridgeref05_get.f a0 14 2).bind fun t198 => ((weighbridgeref05_get.f a0 18 2).bind fun t199 => (if 0 ≤ (4 * ((Int.tdiv (bt a0 12) 16) % 256)) then (some (t193, t194, (t195) % 4294967296, (t196) % 4294967296, Int.tmod t197 4096, t198, t199, a0.extract 20 ((4 * ((Int.tdiv (bt a0 12) 16) % 256)) : Int).toNat, a0.extract ((4 * ((Int.tdiv (bt a0 12) 16) % 256)) : Int).toNat a0.size, 0)) else (none)))))) = some (r1, r2, r3, r4, r5, r6, r7, r8, r9, r10) := H
                  have A18 := Aside0.mk A180
                  clear A180
                  replace H := Option.bind_eq_some_iff.mp H
                  obtain ⟨t196, A190, H⟩ := H
                  replace H : ((weighbridgeref05_get.f a0 12 2).bind fun t197 => ((weighbridgeref05_get.f a0 14 2).bind fun t198 => ((weighbridgeref05_get.f a0 18 2).bind fun t199 => (if 0 ≤ (4 * ((Int.tdiv (bt a0 12) 16) % 256)) then (some (t193, t194, (t195) % 4294967296, (t196) % 4294967296, Int.tmod t197 4096, t198, t199, a0.extract 20 ((4 * ((Int.tdiv (bt a0 12) 16) % 256)) : Int).toNat, a0.extract ((4 * ((Int.tdiv (bt a0 12) 16) % 256)) : Int).toNat a0.size, 0)) else (none))))) = some (r1, r2, r3, r4, r5, r6, r7, r8, r9, r10) := H
                  have A19 := Aside0.mk A190
                  clear A190
                  replace H := Option.bind_eq_some_iff.mp H
                  obtain ⟨t197, A200, H⟩ := H
                  replace H : ((weighbridgeref05_get.f a0 14 2).bind fun t198 => ((weighbridgeref05_get.f a0 18 2).bind fun t199 => (if 0 ≤ (4 * ((Int.tdiv (bt a0 12) 16) % 256)) then (some (t193, t194, (t195) % 4294967296, (t196) % 4294967296, Int.tmod t197 4096, t198, t199, a0.extract 20 ((4 * ((Int.tdiv (bt a0 12) 16) % 256)) : Int).toNat, a0.extract ((4 * ((Int.tdiv (bt a0 12) 16) % 256)) : Int).toNat a0.size, 0)) else (none)))) = some (r1, r2, r3, r4, r5, r6, r7, r8, r9, r10) := H
                  have A20 := Aside0.mk A200
                  clear A200
                  replace H := Option.bind_eq_some_iff.mp H
                  obtain ⟨t198, A210, H⟩ := H
                  replace H : ((weighbridgeref05_get.f a0 18 2).bind fun t199 => (if 0 ≤ (4 * ((Int.tdiv (bt a0 12) 16) % 256)) then (some (t193, t194, (t195) % 4294967296, (t196) % 4294967296, Int.tmod t197 4096, t198, t199, a0.extract 20 ((4 * ((Int.tdiv (bt a0 12) 16) % 256)) : Int).toNat, a0.extract ((4 * ((Int.tdiv (bt a0 12) 16) % 256)) : Int).toNat a0.size, 0)) else (none))) = some (r1, r2, r3, r4, r5, r6, r7, r8, r9, r10) := H
                  have A21 := Aside0.mk A210
                  clear A210
                  replace H := Option.bind_eq_some_iff.mp H
                  obtain ⟨t199, A220, H⟩ := H
                  replace H : (if 0 ≤ (4 * ((Int.tdiv (bt a0 12) 16) % 256)) then (some (t193, t194, (t195) % 4294967296, (t196) % 4294967296, Int.tmod t197 4096, t198, t199, a0.extract 20 ((4 * ((Int.tdiv (bt a0 12) 16) % 256)) : Int).toNat, a0.extract ((4 * ((Int.tdiv (bt a0 12) 16) % 256)) : Int).toNat a0.size, 0)) else (none)) = some (r1, r2, r3, r4, r5, r6, r7, r8, r9, r10) := H
                  have A22 := Aside0.mk A220
                  clear A220
                  have c23b0 := eq_true (of_decide_eq_true (by first | (with_reducible assumption) | assumption) : 20 ≤ (4 * ((Int.tdiv (bt a0 12) 16) % 256)))
                  have c24b0 := eq_true (of_decide_eq_true (by first | (with_reducible assumption) | assumption) : (4 * ((Int.tdiv (bt a0 12) 16) % 256)) ≤ (a0.size : Int))
                  obtain ⟨ji25, hji25⟩ : ∃ j_ : Int, (4 * ((Int.tdiv (bt a0 12) 16) % 256)) = j_ := ⟨_, rfl⟩
                  replace H : (if 0 ≤ (ji25) then (some (t193, t194, (t195) % 4294967296, (t196) % 4294967296, Int.tmod t197 4096, t198, t199, a0.extract 20 ((ji25) : Int).toNat, a0.extract ((ji25) : Int).toNat a0.size, 0)) else (none)) = some (r1, r2, r3, r4, r5, r6, r7, r8, r9, r10) := by first | (rw [hji25] at H; exact H) | (simp only [hji25] at H ⊢; exact H)
                  (try rw [hji25] at c12b0)
                  (try rw [hji25] at c12b1)
                  (try rw [hji25] at c13b0)
                  (try rw [hji25] at c13b1)
                  (try rw [hji25] at A14)
                  (try rw [hji25] at A16)
                  (try rw [hji25] at A17)
                  (try rw [hji25] at A18)
                  (try rw [hji25] at A19)
                  (try rw [hji25] at A20)
                  (try rw [hji25] at A21)
                  (try rw [hji25] at A22)
                  by_cases c26 : 0 ≤ (ji25)
                  · rw [if_pos c26] at H
                    have c26b0 := eq_true c26
                    have c26b1 : decide (0 ≤ (ji25)) = true := decide_eq_true c26
                    clear c26
                    have c27b0 := eq_true (of_decide_eq_true (by first | (with_reducible assumption) | assumption) : (ji25) ≤ (a0.size : Int))
                    simp only [Option.some.injEq, Prod.mk.injEq] at H
                    obtain ⟨rfl, rfl, rfl, rfl, rfl, rfl, rfl, rfl, rfl, rfl⟩ := H
                    try go_wp2_with (first | ((with_reducible refine gate_callee (f := 17) rfl ?_); refine goesL_ (some 28) rfl rfl Try.func17 (by kernel_rfl) rfl #[.string (a0.extract 20 ((ji25) : Int).toNat)] rfl (by (try simp only [List.map_toArray, List.map_cons, List.map_nil]); first | done | (simp only [hji25]; rfl) | rfl | (simp only [List.length_drop, List.length_take]; rfl)) ?_; (with_reducible refine (weighbridgeref04_OptsRight.calls (a0.extract 20 ((ji25) : Int).toNat) true _ A14.out).mono ?_); rintro e w' ⟨rfl, ⟨nd, rfl⟩⟩; refine ⟨_, rfl, ?_⟩; (try (rw [drewN_self wc]; generalize hq_ : World.drewN wc _ = wc; have n0_ : Aside0 (wc.heap[gb191]? = some (.cells #[.int .i64 0, .int .i64 0, .int .u32 0, .int .u32 0, .int .i64 0, .int .i64 0, .int .i64 0, .string (⟨#[]⟩ : ByteArray)] 31 (0, 0))) := ⟨by rw [← hq_]; exact (by (with_reducible repeat (first | refine blk_drewN ?_ _ | refine blk_drew ?_ | refine blk_alloc ?_ _)); exact BK191.out)⟩; have n1_ : Aside0 (Below w.heap.size w wc) := ⟨by rw [← hq_]; exact (by repeat (first | (with_reducible first | exact HB.out | apply below_alloc | apply pw_below_drewN | apply below_drew1 | refine below_set ?_ GE191.out) | exact HB.out))⟩; clear BK191 HB hq_; have BK191 := n0_; have HB := n1_; clear n0_ n1_))))
                    have n0_ := Aside0.mk (blk_drew BK191.out)
                    have n1_ := Aside0.mk (below_drew1 HB.out)
                    clear BK191
                    clear HB
                    have BK191 := n0_
                    have HB := n1_
                    clear n0_ n1_
                    refine start_ (n := 27) (S := fun w' => True) (ds := []) #[false, false, false, false, false, false, false, false, false, false, false, false, false, false, false, false, false, false, false, false, false, false, false, false, false, false, false] (by kernel_rfl) rfl rfl trivial (fun hHeld => ?_); refine with_tabW weighbridgeref05_Parse_p.tab9 weighbridgeref05_Parse_p.bits9 (fun HT_ HW_ => ?_)
                    generalize wc.drew = w28 at BK191 HB hHeld ⊢
                    refine pure_ (i := 0) (N := some 32) (v := ?_) (a' := ?_) #[true, false, false, false, false, false, false, false, false, false, false, false, false, false, false, false, false, false, false, false, false, false, false, false, false, false, false] rfl rfl (any_of HT_.out (by kernel_rfl)) (fun _ _ _ h => h) (Or.inl ⟨by rfl, ?_⟩) ?_ ?_
                    rotate_left
                    · intro w'
                      go_simp
                      with_reducible rfl
                    rotate_left
                    · simp only [Act.put, List.setIfInBounds_toArray, List.set_cons_zero, List.set_cons_succ, i64_w, i32_w]
                      rfl
                    refine pure_ (i := 2) (N := some 34) (v := ?_) (a' := ?_) #[true, false, true, false, false, false, false, false, false, false, false, false, false, false, false, false, false, false, false, false, false, false, false, false, false, false, false] rfl rfl (any_of HT_.out (by kernel_rfl)) (fun _ _ _ h => h) (Or.inl ⟨by rfl, ?_⟩) ?_ ?_
                    rotate_left
                    · intro w'
                      go_simp
                      with_reducible rfl
                    rotate_left
                    · simp only [Act.put, List.setIfInBounds_toArray, List.set_cons_zero, List.set_cons_succ, i64_w, i32_w]
                      rfl
                    refine pure_ (i := 4) (N := some 36) (v := ?_) (a' := ?_) #[true, false, true, false, true, false, false, false, false, false, false, false, false, false, false, false, false, false, false, false, false, false, false, false, false, false, false] rfl rfl (any_of HT_.out (by kernel_rfl)) (fun _ _ _ h => h) (Or.inl ⟨by rfl, ?_⟩) ?_ ?_
                    rotate_left
                    · intro w'
                      go_simp
                      with_reducible rfl
                    rotate_left
                    · simp only [Act.put, List.setIfInBounds_toArray, List.set_cons_zero, List.set_cons_succ, i64_w, i32_w]
                      rfl
                    refine pure_ (i := 7) (N := some 39) (v := ?_) (a' := ?_) #[true, false, true, false, true, false, false, true, false, false, false, false, false, false, false, false, false, false, false, false, false, false, false, false, false, false, false] rfl rfl (any_of HT_.out (by kernel_rfl)) (fun _ _ _ h => h) (Or.inl ⟨by rfl, ?_⟩) ?_ ?_
                    rotate_left
                    · intro w'
                      go_simp
                      with_reducible rfl
                    rotate_left
                    · simp only [Act.put, List.setIfInBounds_toArray, List.set_cons_zero, List.set_cons_succ, i64_w, i32_w]
                      rfl
                    refine pure_ (i := 10) (N := some 42) (v := ?_) (a' := ?_) #[true, false, true, false, true, false, false, true, false, false, true, false, false, false, false, false, false, false, false, false, false, false, false, false, false, false, false] rfl rfl (any_of HT_.out (by kernel_rfl)) (fun _ _ _ h => h) (Or.inl ⟨by rfl, ?_⟩) ?_ ?_
                    rotate_left
                    · intro w'
                      go_simp
                      with_reducible rfl
                    rotate_left
                    · simp only [Act.put, List.setIfInBounds_toArray, List.set_cons_zero, List.set_cons_succ, i64_w, i32_w]
                      rfl
                    refine pure_ (i := 13) (N := some 45) (v := ?_) (a' := ?_) #[true, false, true, false, true, false, false, true, false, false, true, false, false, true, false, false, false, false, false, false, false, false, false, false, false, false, false] rfl rfl (any_of HT_.out (by kernel_rfl)) (fun _ _ _ h => h) (Or.inl ⟨by rfl, ?_⟩) ?_ ?_
                    rotate_left
                    · intro w'
                      go_simp
                      with_reducible rfl
                    rotate_left
                    · simp only [Act.put, List.setIfInBounds_toArray, List.set_cons_zero, List.set_cons_succ, i64_w, i32_w]
                      rfl
                    refine pure_ (i := 15) (N := some 47) (v := ?_) (a' := ?_) #[true, false, true, false, true, false, false, true, false, false, true, false, false, true, false, true, false, false, false, false, false, false, false, false, false, false, false] rfl rfl (any_of HT_.out (by kernel_rfl)) (fun _ _ _ h => h) (Or.inl ⟨by rfl, ?_⟩) ?_ ?_
                    rotate_left
                    · intro w'
                      go_simp
                      with_reducible rfl
                    rotate_left
                    · simp only [Act.put, List.setIfInBounds_toArray, List.set_cons_zero, List.set_cons_succ, i64_w, i32_w]
                      rfl
                    refine pure_ (i := 17) (N := some 49) (v := ?_) (a' := ?_) #[true, false, true, false, true, false, false, true, false, false, true, false, false, true, false, true, false, true, false, false, false, false, false, false, false, false, false] rfl rfl (any_of HT_.out (by kernel_rfl)) (fun _ _ _ h => h) (Or.inl ⟨by rfl, ?_⟩) ?_ ?_
                    rotate_left
                    · intro w'
                      go_simp
                      with_reducible rfl
                    rotate_left
                    · simp only [Act.put, List.setIfInBounds_toArray, List.set_cons_zero, List.set_cons_succ, i64_w, i32_w]
                      rfl
                    refine pure_ (i := 18) (N := some 50) (v := ?_) (a' := ?_) #[true, false, true, false, true, false, false, true, false, false, true, false, false, true, false, true, false, true, true, false, false, false, false, false, false, false, false] rfl rfl (any_of HT_.out (by kernel_rfl)) (fun _ _ _ h => h) (Or.inl ⟨by rfl, ?_⟩) ?_ ?_
                    rotate_left
                    · intro w'
                      go_simp
                      with_reducible rfl
                    rotate_left
                    · simp only [Act.put, List.setIfInBounds_toArray, List.set_cons_zero, List.set_cons_succ, i64_w, i32_w]
                      rfl
                    refine pure_ (i := 19) (N := some 51) (v := ?_) (a' := ?_) #[true, false, true, false, true, false, false, true, false, false, true, false, false, true, false, true, false, true, true, true, false, false, false, false, false, false, false] rfl rfl (any_of HT_.out (by kernel_rfl)) (fun _ _ _ h => h) (Or.inl ⟨by rfl, ?_⟩) ?_ ?_
                    rotate_left
                    · intro w'
                      go_simp
                      with_reducible rfl
                    rotate_left
                    · simp only [Act.put, List.setIfInBounds_toArray, List.set_cons_zero, List.set_cons_succ, i64_w, i32_w]
                      rfl
                    refine pure_ (i := 21) (N := some 53) (v := ?_) (a' := ?_) #[true, false, true, false, true, false, false, true, false, false, true, false, false, true, false, true, false, true, true, true, false, true, false, false, false, false, false] rfl rfl (any_of HT_.out (by kernel_rfl)) (fun _ _ _ h => h) (Or.inl ⟨by rfl, ?_⟩) ?_ ?_
                    rotate_left
                    · intro w'
                      go_simp
                      with_reducible rfl
                    rotate_left
                    · simp only [Act.put, List.setIfInBounds_toArray, List.set_cons_zero, List.set_cons_succ, i64_w, i32_w]
                      rfl
                    refine pure_ (i := 22) (N := some 54) (v := ?_) (a' := ?_) #[true, false, true, false, true, false, false, true, false, false, true, false, false, true, false, true, false, true, true, true, false, true, true, false, false, false, false] rfl rfl (any_of HT_.out (by kernel_rfl)) (fun _ _ _ h => h) (Or.inl ⟨by rfl, ?_⟩) ?_ ?_
                    rotate_left
                    · intro w'
                      go_simp
                      with_reducible rfl
                    rotate_left
                    · simp only [Act.put, List.setIfInBounds_toArray, List.set_cons_zero, List.set_cons_succ, i64_w, i32_w]
                      rfl
                    refine pure_ (i := 23) (N := some 55) (v := ?_) (a' := ?_) #[true, false, true, false, true, false, false, true, false, false, true, false, false, true, false, true, false, true, true, true, false, true, true, true, false, false, false] rfl rfl (any_of HT_.out (by kernel_rfl)) (fun _ _ _ h => h) (Or.inl ⟨by rfl, ?_⟩) ?_ ?_
                    rotate_left
                    · intro w'
                      go_simp
                      with_reducible rfl
                    rotate_left
                    · simp only [Act.put, List.setIfInBounds_toArray, List.set_cons_zero, List.set_cons_succ, i64_w, i32_w]
                      rfl
                    refine one_ (i := 1) (N := some 33) #[true, true, true, false, true, false, false, true, false, false, true, false, false, true, false, true, false, true, true, true, false, true, true, true, false, false, false] rfl rfl (one_of HT_.out (by kernel_rfl)) (by decide) (fun K hK => ?_)
                    refine goes_ Try.func27 (by kernel_rfl) rfl #[.string a0, .int .i64 0, .int .i64 2] (by rfl) rfl rfl (by (try simp only [List.map_toArray, List.map_cons, List.map_nil]); first | done | rfl | (simp only [List.length_drop, List.length_take]; rfl)) ?_
                    with_reducible refine (weighbridgeref05_get.calls a0 0 2 t193 _ A16.out).mono ?_
                    rintro e w' ⟨rfl, ⟨nd, rfl⟩⟩
                    refine ⟨_, rfl, ?_⟩
                    refine hK.out _ _ trivial (fun hHeld => ?_)
                    clear hK K
                    refine norm_ (a' := ?_) ?_ ?_
                    rotate_left
                    · show Act.put _ (some 33) _ = _
                      simp only [Act.put, List.setIfInBounds_toArray, List.set_cons_zero, List.set_cons_succ, i64_w, i32_w]
                      rfl
                    refine one_ (i := 3) (N := some 35) #[true, true, true, true, true, false, false, true, false, false, true, false, false, true, false, true, false, true, true, true, false, true, true, true, false, false, false] rfl rfl (one_of HT_.out (by kernel_rfl)) (by decide) (fun K hK => ?_)
                    refine goes_ Try.func27 (by kernel_rfl) rfl #[.string a0, .int .i64 2, .int .i64 2] (by rfl) rfl rfl (by (try simp only [List.map_toArray, List.map_cons, List.map_nil]); first | done | rfl | (simp only [List.length_drop, List.length_take]; rfl)) ?_
                    with_reducible refine (weighbridgeref05_get.calls a0 2 2 t194 _ A17.out).mono ?_
                    rintro e w' ⟨rfl, ⟨nd, rfl⟩⟩
                    refine ⟨_, rfl, ?_⟩
                    refine hK.out _ _ trivial (fun hHeld => ?_)
                    clear hK K
                    refine norm_ (a' := ?_) ?_ ?_
                    rotate_left
                    · show Act.put _ (some 35) _ = _
                      simp only [Act.put, List.setIfInBounds_toArray, List.set_cons_zero, List.set_cons_succ, i64_w, i32_w]
                      rfl
                    refine one_ (i := 5) (N := some 37) #[true, true, true, true, true, true, false, true, false, false, true, false, false, true, false, true, false, true, true, true, false, true, true, true, false, false, false] rfl rfl (one_of HT_.out (by kernel_rfl)) (by decide) (fun K hK => ?_)
                    refine goes_ Try.func27 (by kernel_rfl) rfl #[.string a0, .int .i64 4, .int .i64 4] (by rfl) rfl rfl (by (try simp only [List.map_toArray, List.map_cons, List.map_nil]); first | done | rfl | (simp only [List.length_drop, List.length_take]; rfl)) ?_
                    with_reducible refine (weighbridgeref05_get.calls a0 4 4 t195 _ A18.out).mono ?_
                    rintro e w' ⟨rfl, ⟨nd, rfl⟩⟩
                    refine ⟨_, rfl, ?_⟩
                    refine hK.out _ _ trivial (fun hHeld => ?_)
                    clear hK K
                    refine norm_ (a' := ?_) ?_ ?_
                    rotate_left
                    · show Act.put _ (some 37) _ = _
                      simp only [Act.put, List.setIfInBounds_toArray, List.set_cons_zero, List.set_cons_succ, i64_w, i32_w]
                      rfl
                    refine pure_ (i := 6) (N := some 38) (v := ?_) (a' := ?_) #[true, true, true, true, true, true, true, true, false, false, true, false, false, true, false, true, false, true, true, true, false, true, true, true, false, false, false] rfl rfl (any_of HT_.out (by kernel_rfl)) (fun _ _ _ h => h) (Or.inl ⟨by rfl, ?_⟩) ?_ ?_
                    rotate_left
                    · intro w'
                      go_simp
                      with_reducible rfl
                    rotate_left
                    · simp only [Act.put, List.setIfInBounds_toArray, List.set_cons_zero, List.set_cons_succ, i64_w, i32_w]
                      rfl
                    refine one_ (i := 8) (N := some 40) #[true, true, true, true, true, true, true, true, true, false, true, false, false, true, false, true, false, true, true, true, false, true, true, true, false, false, false] rfl rfl (one_of HT_.out (by kernel_rfl)) (by decide) (fun K hK => ?_)
                    refine goes_ Try.func27 (by kernel_rfl) rfl #[.string a0, .int .i64 8, .int .i64 4] (by rfl) rfl rfl (by (try simp only [List.map_toArray, List.map_cons, List.map_nil]); first | done | rfl | (simp only [List.length_drop, List.length_take]; rfl)) ?_
                    with_reducible refine (weighbridgeref05_get.calls a0 8 4 t196 _ A19.out).mono ?_
                    rintro e w' ⟨rfl, ⟨nd, rfl⟩⟩
                    refine ⟨_, rfl, ?_⟩
                    refine hK.out _ _ trivial (fun hHeld => ?_)
                    clear hK K
                    refine norm_ (a' := ?_) ?_ ?_
                    rotate_left
                    · show Act.put _ (some 40) _ = _
                      simp only [Act.put, List.setIfInBounds_toArray, List.set_cons_zero, List.set_cons_succ, i64_w, i32_w]
                      rfl
                    refine pure_ (i := 9) (N := some 41) (v := ?_) (a' := ?_) #[true, true, true, true, true, true, true, true, true, true, true, false, false, true, false, true, false, true, true, true, false, true, true, true, false, false, false] rfl rfl (any_of HT_.out (by kernel_rfl)) (fun _ _ _ h => h) (Or.inl ⟨by rfl, ?_⟩) ?_ ?_
                    rotate_left
                    · intro w'
                      go_simp
                      with_reducible rfl
                    rotate_left
                    · simp only [Act.put, List.setIfInBounds_toArray, List.set_cons_zero, List.set_cons_succ, i64_w, i32_w]
                      rfl
                    refine one_ (i := 11) (N := some 43) #[true, true, true, true, true, true, true, true, true, true, true, true, false, true, false, true, false, true, true, true, false, true, true, true, false, false, false] rfl rfl (one_of HT_.out (by kernel_rfl)) (by decide) (fun K hK => ?_)
                    refine goes_ Try.func27 (by kernel_rfl) rfl #[.string a0, .int .i64 12, .int .i64 2] (by rfl) rfl rfl (by (try simp only [List.map_toArray, List.map_cons, List.map_nil]); first | done | rfl | (simp only [List.length_drop, List.length_take]; rfl)) ?_
                    with_reducible refine (weighbridgeref05_get.calls a0 12 2 t197 _ A20.out).mono ?_
                    rintro e w' ⟨rfl, ⟨nd, rfl⟩⟩
                    refine ⟨_, rfl, ?_⟩
                    refine hK.out _ _ trivial (fun hHeld => ?_)
                    clear hK K
                    refine norm_ (a' := ?_) ?_ ?_
                    rotate_left
                    · show Act.put _ (some 43) _ = _
                      simp only [Act.put, List.setIfInBounds_toArray, List.set_cons_zero, List.set_cons_succ, i64_w, i32_w]
                      rfl
                    refine pure_ (i := 12) (N := some 44) (v := ?_) (a' := ?_) #[true, true, true, true, true, true, true, true, true, true, true, true, true, true, false, true, false, true, true, true, false, true, true, true, false, false, false] rfl rfl (any_of HT_.out (by kernel_rfl)) (fun _ _ _ h => h) (Or.inl ⟨by rfl, ?_⟩) ?_ ?_
                    rotate_left
                    · intro w'
                      go_simp
                      with_reducible rfl
                    rotate_left
                    · simp only [Act.put, List.setIfInBounds_toArray, List.set_cons_zero, List.set_cons_succ, i64_w, i32_w]
                      rfl
                    refine one_ (i := 14) (N := some 46) #[true, true, true, true, true, true, true, true, true, true, true, true, true, true, true, true, false, true, true, true, false, true, true, true, false, false, false] rfl rfl (one_of HT_.out (by kernel_rfl)) (by decide) (fun K hK => ?_)
                    refine goes_ Try.func27 (by kernel_rfl) rfl #[.string a0, .int .i64 14, .int .i64 2] (by rfl) rfl rfl (by (try simp only [List.map_toArray, List.map_cons, List.map_nil]); first | done | rfl | (simp only [List.length_drop, List.length_take]; rfl)) ?_
                    with_reducible refine (weighbridgeref05_get.calls a0 14 2 t198 _ A21.out).mono ?_
                    rintro e w' ⟨rfl, ⟨nd, rfl⟩⟩
                    refine ⟨_, rfl, ?_⟩
                    refine hK.out _ _ trivial (fun hHeld => ?_)
                    clear hK K
                    refine norm_ (a' := ?_) ?_ ?_
                    rotate_left
                    · show Act.put _ (some 46) _ = _
                      simp only [Act.put, List.setIfInBounds_toArray, List.set_cons_zero, List.set_cons_succ, i64_w, i32_w]
                      rfl
                    refine one_ (i := 16) (N := some 48) #[true, true, true, true, true, true, true, true, true, true, true, true, true, true, true, true, true, true, true, true, false, true, true, true, false, false, false] rfl rfl (one_of HT_.out (by kernel_rfl)) (by decide) (fun K hK => ?_)
                    refine goes_ Try.func27 (by kernel_rfl) rfl #[.string a0, .int .i64 18, .int .i64 2] (by rfl) rfl rfl (by (try simp only [List.map_toArray, List.map_cons, List.map_nil]); first | done | rfl | (simp only [List.length_drop, List.length_take]; rfl)) ?_
                    with_reducible refine (weighbridgeref05_get.calls a0 18 2 t199 _ A22.out).mono ?_
                    rintro e w' ⟨rfl, ⟨nd, rfl⟩⟩
                    refine ⟨_, rfl, ?_⟩
                    refine hK.out _ _ trivial (fun hHeld => ?_)
                    clear hK K
                    refine norm_ (a' := ?_) ?_ ?_
                    rotate_left
                    · show Act.put _ (some 48) _ = _
                      simp only [Act.put, List.setIfInBounds_toArray, List.set_cons_zero, List.set_cons_succ, i64_w, i32_w]
                      rfl
                    refine pure_ (i := 20) (N := some 52) (v := ?_) (a' := ?_) #[true, true, true, true, true, true, true, true, true, true, true, true, true, true, true, true, true, true, true, true, true, true, true, true, false, false, false] rfl rfl (any_of HT_.out (by kernel_rfl)) (fun _ _ _ h => h) (Or.inl ⟨by rfl, ?_⟩) ?_ ?_
                    rotate_left
                    · intro w'
                      go_simp
                      with_reducible rfl
                    rotate_left
                    · simp only [Act.put, List.setIfInBounds_toArray, List.set_cons_zero, List.set_cons_succ, i64_w, i32_w]
                      rfl
                    refine one_ (i := 24) (N := none) #[true, true, true, true, true, true, true, true, true, true, true, true, true, true, true, true, true, true, true, true, true, true, true, true, true, false, false] rfl rfl (one_of HT_.out (by kernel_rfl)) (by decide) (fun K hK => ?_)
                    have hs29 : w28.cell? ⟨gb191, 0, none⟩ = some (.int .i64 0) := (blk_cell BK191.out 0).trans rfl
                    have hfs29 := blk_frozen BK191.out 0
                    have hs30 : w28.cell? ⟨gb191, 1, none⟩ = some (.int .i64 0) := (blk_cell BK191.out 1).trans rfl
                    have hfs30 := blk_frozen BK191.out 1
                    have hs31 : w28.cell? ⟨gb191, 2, none⟩ = some (.int .u32 0) := (blk_cell BK191.out 2).trans rfl
                    have hfs31 := blk_frozen BK191.out 2
                    have hs32 : w28.cell? ⟨gb191, 3, none⟩ = some (.int .u32 0) := (blk_cell BK191.out 3).trans rfl
                    have hfs32 := blk_frozen BK191.out 3
                    have hs33 : w28.cell? ⟨gb191, 4, none⟩ = some (.int .i64 0) := (blk_cell BK191.out 4).trans rfl
                    have hfs33 := blk_frozen BK191.out 4
                    have hs34 : w28.cell? ⟨gb191, 5, none⟩ = some (.int .i64 0) := (blk_cell BK191.out 5).trans rfl
                    have hfs34 := blk_frozen BK191.out 5
                    have hs35 : w28.cell? ⟨gb191, 6, none⟩ = some (.int .i64 0) := (blk_cell BK191.out 6).trans rfl
                    have hfs35 := blk_frozen BK191.out 6
                    have hs36 : w28.cell? ⟨gb191, 7, none⟩ = some (.string (⟨#[]⟩ : ByteArray)) := (blk_cell BK191.out 7).trans rfl
                    have hfs36 := blk_frozen BK191.out 7
                    refine skip_ (w1 := ?_) (by rfl) rfl ?_ ?_
                    rotate_left
                    · go_simp
                      rfl
                    refine hK.out _ _ trivial (fun hHeld => ?_)
                    clear hK K
                    refine pure_ (i := 25) (N := some 3) (v := ?_) (a' := ?_) #[true, true, true, true, true, true, true, true, true, true, true, true, true, true, true, true, true, true, true, true, true, true, true, true, true, true, false] rfl rfl (any_of HT_.out (by kernel_rfl)) (fun _ _ _ h => h) (Or.inl ⟨by rfl, ?_⟩) ?_ ?_
                    rotate_left
                    · intro w'
                      go_simp
                      with_reducible rfl
                    rotate_left
                    · simp only [Act.put, List.setIfInBounds_toArray, List.set_cons_zero, List.set_cons_succ, i64_w, i32_w]
                      rfl
                    refine pure_ (i := 26) (N := some 4) (v := ?_) (a' := ?_) #[true, true, true, true, true, true, true, true, true, true, true, true, true, true, true, true, true, true, true, true, true, true, true, true, true, true, true] rfl rfl (any_of HT_.out (by kernel_rfl)) (fun _ _ _ h => h) (Or.inl ⟨by rfl, ?_⟩) ?_ ?_
                    rotate_left
                    · intro w'
                      go_simp
                      with_reducible rfl
                    rotate_left
                    · simp only [Act.put, List.setIfInBounds_toArray, List.set_cons_zero, List.set_cons_succ, i64_w, i32_w]
                      rfl
                    refine done_ (done_of HT_.out (by kernel_rfl)) ?_
                    try go_wp2
                    refine bodyPost_ret (results_ctt rfl _ _ gb191 31 #[.int .i64 t193, .int .i64 t194, .int .u32 ((t195) % 4294967296), .int .u32 ((t196) % 4294967296), .int .i64 (Int.tmod t197 4096), .int .i64 t198, .int .i64 t199, .string (a0.extract 20 ((ji25) : Int).toNat)] (0, 0) _ rfl (by (with_reducible repeat (first | refine blk_drewN ?_ _ | refine blk_drew ?_ | refine blk_alloc ?_ _)); refine blk_put (cs := #[.int .i64 t193, .int .i64 t194, .int .u32 ((t195) % 4294967296), .int .u32 ((t196) % 4294967296), .int .i64 (Int.tmod t197 4096), .int .i64 t198, .int .i64 t199, .string (⟨#[]⟩ : ByteArray)]) ?_ 7 _ rfl; (with_reducible repeat (first | refine blk_drewN ?_ _ | refine blk_drew ?_ | refine blk_alloc ?_ _)); refine blk_put (cs := #[.int .i64 t193, .int .i64 t194, .int .u32 ((t195) % 4294967296), .int .u32 ((t196) % 4294967296), .int .i64 (Int.tmod t197 4096), .int .i64 t198, .int .i64 0, .string (⟨#[]⟩ : ByteArray)]) ?_ 6 _ rfl; (with_reducible repeat (first | refine blk_drewN ?_ _ | refine blk_drew ?_ | refine blk_alloc ?_ _)); refine blk_put (cs := #[.int .i64 t193, .int .i64 t194, .int .u32 ((t195) % 4294967296), .int .u32 ((t196) % 4294967296), .int .i64 (Int.tmod t197 4096), .int .i64 0, .int .i64 0, .string (⟨#[]⟩ : ByteArray)]) ?_ 5 _ rfl; (with_reducible repeat (first | refine blk_drewN ?_ _ | refine blk_drew ?_ | refine blk_alloc ?_ _)); refine blk_put (cs := #[.int .i64 t193, .int .i64 t194, .int .u32 ((t195) % 4294967296), .int .u32 ((t196) % 4294967296), .int .i64 0, .int .i64 0, .int .i64 0, .string (⟨#[]⟩ : ByteArray)]) ?_ 4 _ rfl; (with_reducible repeat (first | refine blk_drewN ?_ _ | refine blk_drew ?_ | refine blk_alloc ?_ _)); refine blk_put (cs := #[.int .i64 t193, .int .i64 t194, .int .u32 ((t195) % 4294967296), .int .u32 0, .int .i64 0, .int .i64 0, .int .i64 0, .string (⟨#[]⟩ : ByteArray)]) ?_ 3 _ rfl; (with_reducible repeat (first | refine blk_drewN ?_ _ | refine blk_drew ?_ | refine blk_alloc ?_ _)); refine blk_put (cs := #[.int .i64 t193, .int .i64 t194, .int .u32 0, .int .u32 0, .int .i64 0, .int .i64 0, .int .i64 0, .string (⟨#[]⟩ : ByteArray)]) ?_ 2 _ rfl; (with_reducible repeat (first | refine blk_drewN ?_ _ | refine blk_drew ?_ | refine blk_alloc ?_ _)); refine blk_put (cs := #[.int .i64 t193, .int .i64 0, .int .u32 0, .int .u32 0, .int .i64 0, .int .i64 0, .int .i64 0, .string (⟨#[]⟩ : ByteArray)]) ?_ 1 _ rfl; (with_reducible repeat (first | refine blk_drewN ?_ _ | refine blk_drew ?_ | refine blk_alloc ?_ _)); refine blk_put (cs := #[.int .i64 0, .int .i64 0, .int .u32 0, .int .u32 0, .int .i64 0, .int .i64 0, .int .i64 0, .string (⟨#[]⟩ : ByteArray)]) ?_ 0 _ rfl; (with_reducible repeat (first | refine blk_drewN ?_ _ | refine blk_drew ?_ | refine blk_alloc ?_ _)); exact BK191.out) Try.underlying31 rfl (by kernel_rfl)) rfl ?_
                    exact ⟨by first | rfl | (simp [errW_none, errW_some] <;> rfl) | (simp only [← hji25]; first | rfl | (simp [errW_none, errW_some] <;> rfl)) | (simp [*, errW_none, errW_some] <;> rfl), by repeat (first | (with_reducible first | exact HB.out | apply below_alloc | apply pw_below_drewN | apply below_drew1 | refine below_set ?_ GE191.out) | exact HB.out)⟩
                  · rw [if_neg c26] at H
                    exact absurd H (by simp)
                · replace c15 := Bool.eq_false_iff.mpr c15
                  subst c15
                  have H1 : (some (0, 0, 0, 0, 0, 0, 0, (⟨#[]⟩ : ByteArray), (⟨#[]⟩ : ByteArray), 6)) = some (r1, r2, r3, r4, r5, r6, r7, r8, r9, r10) := by rw [if_neg (show ¬ (false = true) by decide)] at H; exact H
                  clear H
                  have H := H1
                  clear H1
                  simp only [Option.some.injEq, Prod.mk.injEq] at H
                  obtain ⟨rfl, rfl, rfl, rfl, rfl, rfl, rfl, rfl, rfl, rfl⟩ := H
                  go_wp2_with (first | ((with_reducible refine gate_callee (f := 17) rfl ?_); refine goesL_ (some 28) rfl rfl Try.func17 (by kernel_rfl) rfl #[.string (a0.extract 20 ((4 * ((Int.tdiv (bt a0 12) 16) % 256)) : Int).toNat)] rfl (by (try simp only [List.map_toArray, List.map_cons, List.map_nil]); first | done | rfl | (simp only [List.length_drop, List.length_take]; rfl)) ?_; (with_reducible refine (weighbridgeref04_OptsRight.calls (a0.extract 20 ((4 * ((Int.tdiv (bt a0 12) 16) % 256)) : Int).toNat) false _ A14.out).mono ?_); rintro e w' ⟨rfl, ⟨nd, rfl⟩⟩; refine ⟨_, rfl, ?_⟩; (try (rw [drewN_self wc]; generalize hq_ : World.drewN wc _ = wc; have n0_ : Aside0 (wc.heap[gb191]? = some (.cells #[.int .i64 0, .int .i64 0, .int .u32 0, .int .u32 0, .int .i64 0, .int .i64 0, .int .i64 0, .string (⟨#[]⟩ : ByteArray)] 31 (0, 0))) := ⟨by rw [← hq_]; exact (by (with_reducible repeat (first | refine blk_drewN ?_ _ | refine blk_drew ?_ | refine blk_alloc ?_ _)); exact BK191.out)⟩; have n1_ : Aside0 (Below w.heap.size w wc) := ⟨by rw [← hq_]; exact (by repeat (first | (with_reducible first | exact HB.out | apply below_alloc | apply pw_below_drewN | apply below_drew1 | refine below_set ?_ GE191.out) | exact HB.out))⟩; clear BK191 HB hq_; have BK191 := n0_; have HB := n1_; clear n0_ n1_)); have hcz37_0 : wc.cell? ⟨gb191, 0, none⟩ = some (.int .i64 0) := (blk_cell BK191.out 0).trans rfl; have hcz37_1 : wc.cell? ⟨gb191, 1, none⟩ = some (.int .i64 0) := (blk_cell BK191.out 1).trans rfl; have hcz37_2 : wc.cell? ⟨gb191, 2, none⟩ = some (.int .u32 0) := (blk_cell BK191.out 2).trans rfl; have hcz37_3 : wc.cell? ⟨gb191, 3, none⟩ = some (.int .u32 0) := (blk_cell BK191.out 3).trans rfl; have hcz37_4 : wc.cell? ⟨gb191, 4, none⟩ = some (.int .i64 0) := (blk_cell BK191.out 4).trans rfl; have hcz37_5 : wc.cell? ⟨gb191, 5, none⟩ = some (.int .i64 0) := (blk_cell BK191.out 5).trans rfl; have hcz37_6 : wc.cell? ⟨gb191, 6, none⟩ = some (.int .i64 0) := (blk_cell BK191.out 6).trans rfl; have hcz37_7 : wc.cell? ⟨gb191, 7, none⟩ = some (.string (⟨#[]⟩ : ByteArray)) := (blk_cell BK191.out 7).trans rfl; have hfz37_0 := blk_frozen BK191.out 0; have hfz37_1 := blk_frozen BK191.out 1; have hfz37_2 := blk_frozen BK191.out 2; have hfz37_3 := blk_frozen BK191.out 3; have hfz37_4 := blk_frozen BK191.out 4; have hfz37_5 := blk_frozen BK191.out 5; have hfz37_6 := blk_frozen BK191.out 6; have hfz37_7 := blk_frozen BK191.out 7))
                  refine bodyPost_ret (results_ctt rfl _ _ gb191 31 #[.int .i64 0, .int .i64 0, .int .u32 0, .int .u32 0, .int .i64 0, .int .i64 0, .int .i64 0, .string (⟨#[]⟩ : ByteArray)] (0, 0) _ rfl (by (with_reducible repeat (first | refine blk_drewN ?_ _ | refine blk_drew ?_ | refine blk_alloc ?_ _)); refine blk_put (cs := #[.int .i64 0, .int .i64 0, .int .u32 0, .int .u32 0, .int .i64 0, .int .i64 0, .int .i64 0, .string (⟨#[]⟩ : ByteArray)]) ?_ 7 _ rfl; (with_reducible repeat (first | refine blk_drewN ?_ _ | refine blk_drew ?_ | refine blk_alloc ?_ _)); refine blk_put (cs := #[.int .i64 0, .int .i64 0, .int .u32 0, .int .u32 0, .int .i64 0, .int .i64 0, .int .i64 0, .string (⟨#[]⟩ : ByteArray)]) ?_ 6 _ rfl; (with_reducible repeat (first | refine blk_drewN ?_ _ | refine blk_drew ?_ | refine blk_alloc ?_ _)); refine blk_put (cs := #[.int .i64 0, .int .i64 0, .int .u32 0, .int .u32 0, .int .i64 0, .int .i64 0, .int .i64 0, .string (⟨#[]⟩ : ByteArray)]) ?_ 5 _ rfl; (with_reducible repeat (first | refine blk_drewN ?_ _ | refine blk_drew ?_ | refine blk_alloc ?_ _)); refine blk_put (cs := #[.int .i64 0, .int .i64 0, .int .u32 0, .int .u32 0, .int .i64 0, .int .i64 0, .int .i64 0, .string (⟨#[]⟩ : ByteArray)]) ?_ 4 _ rfl; (with_reducible repeat (first | refine blk_drewN ?_ _ | refine blk_drew ?_ | refine blk_alloc ?_ _)); refine blk_put (cs := #[.int .i64 0, .int .i64 0, .int .u32 0, .int .u32 0, .int .i64 0, .int .i64 0, .int .i64 0, .string (⟨#[]⟩ : ByteArray)]) ?_ 3 _ rfl; (with_reducible repeat (first | refine blk_drewN ?_ _ | refine blk_drew ?_ | refine blk_alloc ?_ _)); refine blk_put (cs := #[.int .i64 0, .int .i64 0, .int .u32 0, .int .u32 0, .int .i64 0, .int .i64 0, .int .i64 0, .string (⟨#[]⟩ : ByteArray)]) ?_ 2 _ rfl; (with_reducible repeat (first | refine blk_drewN ?_ _ | refine blk_drew ?_ | refine blk_alloc ?_ _)); refine blk_put (cs := #[.int .i64 0, .int .i64 0, .int .u32 0, .int .u32 0, .int .i64 0, .int .i64 0, .int .i64 0, .string (⟨#[]⟩ : ByteArray)]) ?_ 1 _ rfl; (with_reducible repeat (first | refine blk_drewN ?_ _ | refine blk_drew ?_ | refine blk_alloc ?_ _)); refine blk_put (cs := #[.int .i64 0, .int .i64 0, .int .u32 0, .int .u32 0, .int .i64 0, .int .i64 0, .int .i64 0, .string (⟨#[]⟩ : ByteArray)]) ?_ 0 _ rfl; (with_reducible repeat (first | refine blk_drewN ?_ _ | refine blk_drew ?_ | refine blk_alloc ?_ _)); exact BK191.out) Try.underlying31 rfl (by kernel_rfl)) rfl ?_
                  exact ⟨by first | rfl | (simp [errW_none, errW_some] <;> rfl) | (simp [*, errW_none, errW_some] <;> rfl), by repeat (first | (with_reducible first | exact HB.out | apply below_alloc | apply pw_below_drewN | apply below_drew1 | refine below_set ?_ GE191.out) | exact HB.out)⟩
              · rw [if_neg c13] at H
                exact absurd H (by simp)
            · rw [if_neg c12] at H
              exact absurd H (by simp)
    · rw [if_neg c5] at H
      exact absurd H (by simp)

theorem r5_get (s : ByteArray) (a b : Int) (hs : s.size ≤ 140737488355328) : weighbridgeref05_get.f s a b = some (Sp.get (bl s) a b).1 := by
  unfold weighbridgeref05_get.f; rw [weighbridgeref01_Get_eq _ _ _ (by omega)]; rfl
theorem r5_small (s : List UInt8) (a b : Int) : 0 ≤ (Sp.get s a b).1 ∧ (Sp.get s a b).1 < 4294967296 := by
  unfold Sp.get
  split
  case isFalse => exact ⟨by decide, by decide⟩
  case isTrue h =>
    have hf := Sp.has_iff.1 h
    exact Sp.beNum_small _ (by rw [List.length_take]; omega)
def weighbridgeref05_Parse.f (a0 : ByteArray) : Option (Int × Int × Int × Int × Int × Int × Int × ByteArray × ByteArray × Int) := if a0.size ≤ 140737488355328 then some ((Sp.tcpParse (bl a0)).sp, (Sp.tcpParse (bl a0)).dp, (Sp.tcpParse (bl a0)).seq, (Sp.tcpParse (bl a0)).ack, (Sp.tcpParse (bl a0)).flags, (Sp.tcpParse (bl a0)).win, (Sp.tcpParse (bl a0)).urg, lb (Sp.tcpParse (bl a0)).opts, lb (Sp.tcpParse (bl a0)).body, (Sp.tcpParse (bl a0)).e) else none
theorem weighbridgeref05_Parse_eq {a0 : ByteArray} (h : a0.size ≤ 140737488355328) : weighbridgeref05_Parse.f a0 = some ((Sp.tcpParse (bl a0)).sp, (Sp.tcpParse (bl a0)).dp, (Sp.tcpParse (bl a0)).seq, (Sp.tcpParse (bl a0)).ack, (Sp.tcpParse (bl a0)).flags, (Sp.tcpParse (bl a0)).win, (Sp.tcpParse (bl a0)).urg, lb (Sp.tcpParse (bl a0)).opts, lb (Sp.tcpParse (bl a0)).body, (Sp.tcpParse (bl a0)).e) := by unfold weighbridgeref05_Parse.f; exact if_pos h
theorem r5_parse_in (s : ByteArray) (hs : s.size ≤ 140737488355328) (h20 : ¬ (bl s).length < 20) (b : Bool) (hb : b = true ↔ Sp.tcpSize (bl s) < 20 ∨ Sp.tcpSize (bl s) > (bl s).length) :
    weighbridgeref05_Parse_p.j0 1 s (Sp.tcpSize (bl s) : Int) b = some ((Sp.tcpParse (bl s)).sp, (Sp.tcpParse (bl s)).dp, (Sp.tcpParse (bl s)).seq, (Sp.tcpParse (bl s)).ack, (Sp.tcpParse (bl s)).flags, (Sp.tcpParse (bl s)).win, (Sp.tcpParse (bl s)).urg, lb (Sp.tcpParse (bl s)).opts, lb (Sp.tcpParse (bl s)).body, (Sp.tcpParse (bl s)).e) := by
  have hl := bl_length s
  rw [weighbridgeref05_Parse_p.j0]
  by_cases h2 : Sp.tcpSize (bl s) < 20 ∨ Sp.tcpSize (bl s) > (bl s).length
  · have e : Sp.tcpParse (bl s) = Sp.tcpNone 4 := by unfold Sp.tcpParse; rw [dif_neg h20, if_pos h2]
    rw [if_pos (hb.2 h2), e]; rfl
  · have hex : s.extract 20 ((Sp.tcpSize (bl s) : Int)).toNat = lb (((bl s).take (Sp.tcpSize (bl s))).drop 20) := Sp.bl_inj (by rw [bl_extract, bl_lb, Int.toNat_natCast])
    rw [if_neg (fun h => h2 (hb.1 h)), if_pos (by omega), if_pos (by omega), hex, weighbridgeref04_OptsRight_eq (by rw [lb_size, List.length_drop, List.length_take]; omega), Option.bind_some, bl_lb]
    by_cases h3 : Sp.optsOk (((bl s).take (Sp.tcpSize (bl s))).drop 20) = true
    · have e : Sp.tcpParse (bl s) = ⟨(Sp.get (bl s) 0 2).1, (Sp.get (bl s) 2 2).1, (Sp.get (bl s) 4 4).1, (Sp.get (bl s) 8 4).1, (Sp.get (bl s) 12 2).1 % 4096, (Sp.get (bl s) 14 2).1, (Sp.get (bl s) 18 2).1, ((bl s).take (Sp.tcpSize (bl s))).drop 20, (bl s).drop (Sp.tcpSize (bl s)), 0⟩ := by
        unfold Sp.tcpParse; rw [dif_neg h20, if_neg h2, if_pos h3]
      have hb : s.extract ((Sp.tcpSize (bl s) : Int)).toNat s.size = lb ((bl s).drop (Sp.tcpSize (bl s))) := Sp.bl_inj (by rw [bl_extract, bl_lb, Int.toNat_natCast, ← hl, List.take_length])
      have g4 := r5_small (bl s) 4 4
      have g8 := r5_small (bl s) 8 4
      rw [if_pos h3, r5_get _ _ _ hs, Option.bind_some, r5_get _ _ _ hs, Option.bind_some, r5_get _ _ _ hs, Option.bind_some, r5_get _ _ _ hs, Option.bind_some, r5_get _ _ _ hs, Option.bind_some, r5_get _ _ _ hs, Option.bind_some, r5_get _ _ _ hs, Option.bind_some, if_pos (by omega), hb, Int.emod_eq_of_lt g4.1 g4.2, Int.emod_eq_of_lt g8.1 g8.2, Int.tmod_eq_emod_of_nonneg (r5_small _ _ _).1, e]
    · have e : Sp.tcpParse (bl s) = Sp.tcpNone 6 := by unfold Sp.tcpParse; rw [dif_neg h20, if_neg h2, if_neg h3]
      rw [if_neg h3, e]; rfl
theorem weighbridgeref05_Parse_ev (a0 : ByteArray) (r : Int × Int × Int × Int × Int × Int × Int × ByteArray × ByteArray × Int) (h : weighbridgeref05_Parse.f a0 = some r) : ∃ k, weighbridgeref05_Parse_p.f k a0 = some r := by
  unfold weighbridgeref05_Parse.f at h
  split at h
  case isFalse => cases h
  case isTrue hs =>
    refine ⟨1, ?_⟩
    rw [← h]
    unfold weighbridgeref05_Parse_p.f
    have hl := bl_length a0
    by_cases h1 : (a0.size : Int) < 20
    · have e : Sp.tcpParse (bl a0) = Sp.tcpNone 2 := by unfold Sp.tcpParse; rw [dif_pos (by omega)]
      rw [if_pos h1, e]; rfl
    · have h12 : 12 < (bl a0).length := by omega
      have hx := ((bl a0)[12]'h12).toNat_lt
      have hb : bt a0 12 = ((((bl a0)[12]'h12).toNat : Nat) : Int) := r4_bt h12
      have e : 4 * ((Int.tdiv (bt a0 12) 16) % 256) = (Sp.tcpSize (bl a0) : Int) := by
        unfold Sp.tcpSize
        rw [dif_pos h12, hb, Int.tdiv_eq_ediv_of_nonneg (by omega)]
        omega
      rw [if_neg h1, if_pos (by omega), e]
      by_cases h2 : (Sp.tcpSize (bl a0) : Int) < 20
      · rw [if_pos h2]
        exact r5_parse_in a0 hs (by omega) true ⟨fun _ => Or.inl (by omega), fun _ => rfl⟩
      · rw [if_neg h2]
        exact r5_parse_in a0 hs (by omega) _ ⟨fun h => Or.inr (by have := of_decide_eq_true h; omega), fun h => decide_eq_true (by omega)⟩

theorem weighbridgeref05_Parse.calls (a0 : ByteArray) (r1 : Int) (r2 : Int) (r3 : Int) (r4 : Int) (r5 : Int) (r6 : Int) (r7 : Int) (r8 : ByteArray) (r9 : ByteArray) (r10 : Int) (w : World) (h : weighbridgeref05_Parse.f a0 = some (r1, r2, r3, r4, r5, r6, r7, r8, r9, r10)) :
    Calls Try.prog 21 #[.string a0] w fun e w' => e = .returned (.tuple #[.agg #[.int .i64 r1, .int .i64 r2, .int .u32 r3, .int .u32 r4, .int .i64 r5, .int .i64 r6, .int .i64 r7, .string r8], .string r9, .int .i64 r10]) ∧ Below w.heap.size w w' := by
  obtain ⟨k, hk⟩ := weighbridgeref05_Parse_ev a0 _ h
  exact weighbridgeref05_Parse_p.calls k a0 r1 r2 r3 r4 r5 r6 r7 r8 r9 r10 w hk

end Go.Proofs.Ytlhpfoibohiggaa.Pr
