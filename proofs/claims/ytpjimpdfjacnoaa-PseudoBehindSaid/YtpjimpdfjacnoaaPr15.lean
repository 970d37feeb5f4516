-- Written by a program of the session (wip/tools) out of the translation, over the kit's print; with pieces of the session's own.
import Derived.Test.YtpjimpdfjacnoaaPr0
import Derived.Test.YtpjimpdfjacnoaaPr1
import Derived.Test.YtpjimpdfjacnoaaPr3
import Derived.Test.YtpjimpdfjacnoaaPr5
namespace Go.Proofs.Ytpjimpdfjacnoaa.Pr
open Go.RowKit Go.Proofs.YtpjimpdfjacnoaaW.PrintWords Go.Proofs.YtpjimpdfjacnoaaW.PrintLast Go.Proofs.YtpjimpdfjacnoaaW.PrintMore
attribute [local go_sem] max2_int min2_int max_two min_two max_three min_three max_four min_four   -- for this text's walks alone
set_option linter.unusedVariables false
set_option linter.unusedSimpArgs false
open Go.Proofs.Ytpjimpdfjacnoaa.Sp
/-! ### weighbridgelaw08_PseudoBehind: function 8 -/
def weighbridgelaw08_PseudoBehind.f (a0 : Int) (a1 : Int) (a2 : ByteArray) (a3 : ByteArray) : Option (Bool) := (weighbridgelaw08_examples.f).bind fun t276 => (if t276 = true then (if 0 ≤ (mn (a2.size : Int) 100) then (if (mn (a2.size : Int) 100) ≤ (a2.size : Int) then ((udp_Build.f 7 9 (a2.extract 0 ((mn (a2.size : Int) 100) : Int).toNat)).bind fun bt277 => ((pseudo_Fill.f 17 a0 a1 bt277.1).bind fun bt279 => (if bt277.1.size + a3.size ≤ 9223372036854775807 then ((pseudo_Fill.f 17 a0 a1 (bt277.1 ++ a3)).bind fun bt281 => (if bt277.2 = 0 then (if bt279.2 = true then (if bt281.2 = true then (if bt279.1.size + a3.size ≤ 9223372036854775807 then (if bt281.1.toList = (bt279.1 ++ a3).toList then ((pseudo_Verify.f 17 a0 a1 (bt279.1 ++ a3)).bind fun t283 => (some (t283 == 0))) else (some false)) else (none)) else (some false)) else (some false)) else (some false))) else (none)))) else (none)) else (none)) else (some false))
set_option maxHeartbeats 8000000 in
set_option maxRecDepth 100000 in
theorem weighbridgelaw08_PseudoBehind.calls (a0 : Int) (a1 : Int) (a2 : ByteArray) (a3 : ByteArray) (r : Bool) (w : World) (h : weighbridgelaw08_PseudoBehind.f a0 a1 a2 a3 = some r) :
    Calls Try.prog 8 #[.int .u32 a0, .int .u32 a1, .string a2, .string a3] w fun e w' => e = .returned (.bool r) ∧ Below w.heap.size w w' := by
  have HB := Aside0.mk (Below.refl w.heap.size w)
  have H : ((weighbridgelaw08_examples.f).bind fun t276 => (if t276 = true then (if 0 ≤ (mn (a2.size : Int) 100) then (if (mn (a2.size : Int) 100) ≤ (a2.size : Int) then ((udp_Build.f 7 9 (a2.extract 0 ((mn (a2.size : Int) 100) : Int).toNat)).bind fun bt277 => ((pseudo_Fill.f 17 a0 a1 bt277.1).bind fun bt279 => (if bt277.1.size + a3.size ≤ 9223372036854775807 then ((pseudo_Fill.f 17 a0 a1 (bt277.1 ++ a3)).bind fun bt281 => (if bt277.2 = 0 then (if bt279.2 = true then (if bt281.2 = true then (if bt279.1.size + a3.size ≤ 9223372036854775807 then (if bt281.1.toList = (bt279.1 ++ a3).toList then ((pseudo_Verify.f 17 a0 a1 (bt279.1 ++ a3)).bind fun t283 => (some (t283 == 0))) else (some false)) else (none)) else (some false)) else (some false)) else (some false))) else (none)))) else (none)) else (none)) else (some false))) = some r := h
  clear h
  replace H := Option.bind_eq_some_iff.mp H
  obtain ⟨t276, A50, H⟩ := H
  replace H : (if t276 = true then (if 0 ≤ (mn (a2.size : Int) 100) then (if (mn (a2.size : Int) 100) ≤ (a2.size : Int) then ((udp_Build.f 7 9 (a2.extract 0 ((mn (a2.size : Int) 100) : Int).toNat)).bind fun bt277 => ((pseudo_Fill.f 17 a0 a1 bt277.1).bind fun bt279 => (if bt277.1.size + a3.size ≤ 9223372036854775807 then ((pseudo_Fill.f 17 a0 a1 (bt277.1 ++ a3)).bind fun bt281 => (if bt277.2 = 0 then (if bt279.2 = true then (if bt281.2 = true then (if bt279.1.size + a3.size ≤ 9223372036854775807 then (if bt281.1.toList = (bt279.1 ++ a3).toList then ((pseudo_Verify.f 17 a0 a1 (bt279.1 ++ a3)).bind fun t283 => (some (t283 == 0))) else (some false)) else (none)) else (some false)) else (some false)) else (some false))) else (none)))) else (none)) else (none)) else (some false)) = some r := H
  have A5 := Aside0.mk A50
  clear A50
  by_cases c6 : t276 = true
  · subst c6
    have H1 : (if 0 ≤ (mn (a2.size : Int) 100) then (if (mn (a2.size : Int) 100) ≤ (a2.size : Int) then ((udp_Build.f 7 9 (a2.extract 0 ((mn (a2.size : Int) 100) : Int).toNat)).bind fun bt277 => ((pseudo_Fill.f 17 a0 a1 bt277.1).bind fun bt279 => (if bt277.1.size + a3.size ≤ 9223372036854775807 then ((pseudo_Fill.f 17 a0 a1 (bt277.1 ++ a3)).bind fun bt281 => (if bt277.2 = 0 then (if bt279.2 = true then (if bt281.2 = true then (if bt279.1.size + a3.size ≤ 9223372036854775807 then (if bt281.1.toList = (bt279.1 ++ a3).toList then ((pseudo_Verify.f 17 a0 a1 (bt279.1 ++ a3)).bind fun t283 => (some (t283 == 0))) else (some false)) else (none)) else (some false)) else (some false)) else (some false))) else (none)))) else (none)) else (none)) = some r := by rw [if_pos rfl] at H; exact H
    clear H
    have H := H1
    clear H1
    obtain ⟨ji7, hji7⟩ : ∃ j_ : Int, (mn (a2.size : Int) 100) = j_ := ⟨_, rfl⟩
    replace H : (if 0 ≤ (ji7) then (if (ji7) ≤ (a2.size : Int) then ((udp_Build.f 7 9 (a2.extract 0 ((ji7) : Int).toNat)).bind fun bt277 => ((pseudo_Fill.f 17 a0 a1 bt277.1).bind fun bt279 => (if bt277.1.size + a3.size ≤ 9223372036854775807 then ((pseudo_Fill.f 17 a0 a1 (bt277.1 ++ a3)).bind fun bt281 => (if bt277.2 = 0 then (if bt279.2 = true then (if bt281.2 = true then (if bt279.1.size + a3.size ≤ 9223372036854775807 then (if bt281.1.toList = (bt279.1 ++ a3).toList then ((pseudo_Verify.f 17 a0 a1 (bt279.1 ++ a3)).bind fun t283 => (some (t283 == 0))) else (some false)) else (none)) else (some false)) else (some false)) else (some false))) else (none)))) else (none)) else (none)) = some r := by first | (rw [hji7] at H; exact H) | (simp only [hji7] at H ⊢; exact H)
    (try rw [hji7] at A5)
    (try (have hji7h : ji7 ≤ 100 := by (rw [← hji7]; unfold mn; (repeat' split) <;> omega)))
    (try (have hji7g : ji7 ≤ 64 := by omega))
    (try (have hji7l : 0 ≤ ji7 := by (rw [← hji7]; unfold mn; (repeat' split) <;> omega)))
    (try (have hji7m : 0 ≤ ji7 := by omega))
    have hji7_ : (if 100 < (a2.size : Int) then 100 else (a2.size : Int)) = ji7 := hji7
    by_cases c8 : 0 ≤ (ji7)
    · rw [if_pos c8] at H
      have c8b0 := eq_true c8
      have c8b1 : decide (0 ≤ (ji7)) = true := decide_eq_true c8
      clear c8
      by_cases c9 : (ji7) ≤ (a2.size : Int)
      · rw [if_pos c9] at H
        have c9b0 := eq_true c9
        have c9b1 : decide ((ji7) ≤ (a2.size : Int)) = true := decide_eq_true c9
        clear c9
        replace H := Option.bind_eq_some_iff.mp H
        obtain ⟨⟨t277, t278⟩, A100, H⟩ := H
        replace H : ((pseudo_Fill.f 17 a0 a1 t277).bind fun bt279 => (if t277.size + a3.size ≤ 9223372036854775807 then ((pseudo_Fill.f 17 a0 a1 (t277 ++ a3)).bind fun bt281 => (if t278 = 0 then (if bt279.2 = true then (if bt281.2 = true then (if bt279.1.size + a3.size ≤ 9223372036854775807 then (if bt281.1.toList = (bt279.1 ++ a3).toList then ((pseudo_Verify.f 17 a0 a1 (bt279.1 ++ a3)).bind fun t283 => (some (t283 == 0))) else (some false)) else (none)) else (some false)) else (some false)) else (some false))) else (none))) = some r := H
        have A10 := Aside0.mk A100
        clear A100
        replace H := Option.bind_eq_some_iff.mp H
        obtain ⟨⟨t279, t280⟩, A110, H⟩ := H
        replace H : (if t277.size + a3.size ≤ 9223372036854775807 then ((pseudo_Fill.f 17 a0 a1 (t277 ++ a3)).bind fun bt281 => (if t278 = 0 then (if t280 = true then (if bt281.2 = true then (if t279.size + a3.size ≤ 9223372036854775807 then (if bt281.1.toList = (t279 ++ a3).toList then ((pseudo_Verify.f 17 a0 a1 (t279 ++ a3)).bind fun t283 => (some (t283 == 0))) else (some false)) else (none)) else (some false)) else (some false)) else (some false))) else (none)) = some r := H
        have A11 := Aside0.mk A110
        clear A110
        by_cases c12 : t277.size + a3.size ≤ 9223372036854775807
        · rw [if_pos c12] at H
          have c12b0 := eq_true c12
          have c12b1 : decide (t277.size + a3.size ≤ 9223372036854775807) = true := decide_eq_true c12
          try have c12b2 : (9223372036854775807 < t277.size + a3.size) = False := eq_false (Nat.not_lt.2 c12)
          replace H := Option.bind_eq_some_iff.mp H
          obtain ⟨⟨t281, t282⟩, A130, H⟩ := H
          replace H : (if t278 = 0 then (if t280 = true then (if t282 = true then (if t279.size + a3.size ≤ 9223372036854775807 then (if t281.toList = (t279 ++ a3).toList then ((pseudo_Verify.f 17 a0 a1 (t279 ++ a3)).bind fun t283 => (some (t283 == 0))) else (some false)) else (none)) else (some false)) else (some false)) else (some false)) = some r := H
          have A13 := Aside0.mk A130
          clear A130
          by_cases c14 : t278 = 0
          · rw [if_pos c14] at H
            have c14b0 : (t278 == 0) = true := beq_iff_eq.mpr c14
            have c14b1 : (t278 != 0) = false := bne_eq_false_iff_eq.mpr c14
            clear c14
            by_cases c15 : t280 = true
            · subst c15
              have H1 : (if t282 = true then (if t279.size + a3.size ≤ 9223372036854775807 then (if t281.toList = (t279 ++ a3).toList then ((pseudo_Verify.f 17 a0 a1 (t279 ++ a3)).bind fun t283 => (some (t283 == 0))) else (some false)) else (none)) else (some false)) = some r := by rw [if_pos rfl] at H; exact H
              clear H
              have H := H1
              clear H1
              by_cases c16 : t282 = true
              · subst c16
                have H1 : (if t279.size + a3.size ≤ 9223372036854775807 then (if t281.toList = (t279 ++ a3).toList then ((pseudo_Verify.f 17 a0 a1 (t279 ++ a3)).bind fun t283 => (some (t283 == 0))) else (some false)) else (none)) = some r := by rw [if_pos rfl] at H; exact H
                clear H
                have H := H1
                clear H1
                by_cases c17 : t279.size + a3.size ≤ 9223372036854775807
                · rw [if_pos c17] at H
                  have c17b0 := eq_true c17
                  have c17b1 : decide (t279.size + a3.size ≤ 9223372036854775807) = true := decide_eq_true c17
                  try have c17b2 : (9223372036854775807 < t279.size + a3.size) = False := eq_false (Nat.not_lt.2 c17)
                  by_cases c18 : t281.toList = (t279 ++ a3).toList
                  · rw [if_pos c18] at H
                    have c18b0 : (t281.toList == (t279 ++ a3).toList) = true := beq_iff_eq.mpr c18
                    have c18b1 : (t281.toList != (t279 ++ a3).toList) = false := bne_eq_false_iff_eq.mpr c18
                    clear c18
                    replace H := Option.bind_eq_some_iff.mp H
                    obtain ⟨t283, A190, H⟩ := H
                    replace H : (some (t283 == 0)) = some r := H
                    have A19 := Aside0.mk A190
                    clear A190
                    obtain rfl := Option.some.inj H
                    go_enter Try.func8, Try.ntmps8
                    go_wp2_with (first | ((with_reducible refine gate_callee (f := 9) rfl ?_); refine goesL_ (some 16) rfl rfl Try.func9 (by kernel_rfl) rfl #[] rfl (by (try simp only [List.map_toArray, List.map_cons, List.map_nil]); first | done | rfl | (simp only [List.length_drop, List.length_take]; rfl)) ?_; (with_reducible refine (weighbridgelaw08_examples.calls  true _ A5.out).mono ?_); rintro e w20 ⟨rfl, hb⟩; (try clear A5); refine ⟨_, rfl, ?_⟩; have n0_ := Aside0.mk (below_step (by repeat (first | (with_reducible first | exact HB.out | apply below_alloc | apply pw_below_drewN | apply below_drew1) | exact HB.out)) hb); clear HB; have HB := n0_; clear n0_; (try clear hb); (try clear hb2); (try clear hk); (try clear hi)) | ((with_reducible refine gate_callee (f := 18) rfl ?_); refine goesL_ (some 25) rfl rfl Try.func18 (by kernel_rfl) rfl #[.int .i64 7, .int .i64 9, .string (a2.extract 0 ((ji7) : Int).toNat)] rfl (by (try simp only [List.map_toArray, List.map_cons, List.map_nil]); first | done | (simp only [hji7]; rfl) | rfl | (simp only [List.length_drop, List.length_take]; rfl)) ?_; (with_reducible refine (udp_Build.calls 7 9 (a2.extract 0 ((ji7) : Int).toNat) t277 t278 _ A10.out).mono ?_); rintro e w21 ⟨rfl, hb⟩; (try clear A10); refine ⟨_, rfl, ?_⟩; have n0_ := Aside0.mk (below_step (by repeat (first | (with_reducible first | exact HB.out | apply below_alloc | apply pw_below_drewN | apply below_drew1) | exact HB.out)) hb); clear HB; have HB := n0_; clear n0_; (try clear hb); (try clear hb2); (try clear hk); (try clear hi)) | ((with_reducible refine gate_callee (f := 12) rfl ?_); refine goesL_ (some 32) rfl rfl Try.func12 (by kernel_rfl) rfl #[.int .i64 17, .int .u32 a0, .int .u32 a1, .string t277] rfl (by (try simp only [List.map_toArray, List.map_cons, List.map_nil]); first | done | rfl | (simp only [List.length_drop, List.length_take]; rfl)) ?_; (with_reducible refine (pseudo_Fill.calls 17 a0 a1 t277 t279 true _ A11.out).mono ?_); rintro e w22 ⟨rfl, hb⟩; (try clear A11); refine ⟨_, rfl, ?_⟩; have n0_ := Aside0.mk (below_step (by repeat (first | (with_reducible first | exact HB.out | apply below_alloc | apply pw_below_drewN | apply below_drew1) | exact HB.out)) hb); clear HB; have HB := n0_; clear n0_; (try clear hb); (try clear hb2); (try clear hk); (try clear hi)) | ((with_reducible refine gate_callee (f := 12) rfl ?_); refine goesL_ (some 41) rfl rfl Try.func12 (by kernel_rfl) rfl #[.int .i64 17, .int .u32 a0, .int .u32 a1, .string (t277 ++ a3)] rfl (by (try simp only [List.map_toArray, List.map_cons, List.map_nil]); first | done | rfl | (simp only [List.length_drop, List.length_take]; rfl)) ?_; (with_reducible refine (pseudo_Fill.calls 17 a0 a1 (t277 ++ a3) t281 true _ A13.out).mono ?_); rintro e w23 ⟨rfl, hb⟩; (try clear A13); refine ⟨_, rfl, ?_⟩; have n0_ := Aside0.mk (below_step (by repeat (first | (with_reducible first | exact HB.out | apply below_alloc | apply pw_below_drewN | apply below_drew1) | exact HB.out)) hb); clear HB; have HB := n0_; clear n0_; (try clear hb); (try clear hb2); (try clear hk); (try clear hi)) | (go_at_call 16; (with_reducible refine (pseudo_Verify.calls 17 a0 a1 (t279 ++ a3) t283 _ A19.out).mono ?_); rintro e w24 ⟨rfl, hb⟩; (try clear A19); have n0_ := Aside0.mk (below_step (by repeat (first | (with_reducible first | exact HB.out | apply below_alloc | apply pw_below_drewN | apply below_drew1) | exact HB.out)) hb); clear HB; have HB := n0_; clear n0_; (try clear hb); (try clear hb2); (try clear hk); (try clear hi)))
                    go_ret
                    exact ⟨by first | rfl | (simp [errW_none, errW_some] <;> rfl) | (simp only [← hji7]; first | rfl | (simp [errW_none, errW_some] <;> rfl)) | (simp [*, errW_none, errW_some] <;> rfl), by repeat (first | (with_reducible first | exact HB.out | apply below_alloc | apply pw_below_drewN | apply below_drew1) | exact HB.out)⟩
                  · rw [if_neg c18] at H
                    have c18b0 : (t281.toList == (t279 ++ a3).toList) = false := beq_eq_false_iff_ne.mpr c18
                    have c18b1 : (t281.toList != (t279 ++ a3).toList) = true := bne_iff_ne.mpr c18
                    obtain rfl := Option.some.inj H
                    go_enter Try.func8, Try.ntmps8
                    go_wp2_with (first | ((with_reducible refine gate_callee (f := 9) rfl ?_); refine goesL_ (some 16) rfl rfl Try.func9 (by kernel_rfl) rfl #[] rfl (by (try simp only [List.map_toArray, List.map_cons, List.map_nil]); first | done | rfl | (simp only [List.length_drop, List.length_take]; rfl)) ?_; (with_reducible refine (weighbridgelaw08_examples.calls  true _ A5.out).mono ?_); rintro e w25 ⟨rfl, hb⟩; (try clear A5); refine ⟨_, rfl, ?_⟩; have n0_ := Aside0.mk (below_step (by repeat (first | (with_reducible first | exact HB.out | apply below_alloc | apply pw_below_drewN | apply below_drew1) | exact HB.out)) hb); clear HB; have HB := n0_; clear n0_; (try clear hb); (try clear hb2); (try clear hk); (try clear hi)) | ((with_reducible refine gate_callee (f := 18) rfl ?_); refine goesL_ (some 25) rfl rfl Try.func18 (by kernel_rfl) rfl #[.int .i64 7, .int .i64 9, .string (a2.extract 0 ((ji7) : Int).toNat)] rfl (by (try simp only [List.map_toArray, List.map_cons, List.map_nil]); first | done | (simp only [hji7]; rfl) | rfl | (simp only [List.length_drop, List.length_take]; rfl)) ?_; (with_reducible refine (udp_Build.calls 7 9 (a2.extract 0 ((ji7) : Int).toNat) t277 t278 _ A10.out).mono ?_); rintro e w26 ⟨rfl, hb⟩; (try clear A10); refine ⟨_, rfl, ?_⟩; have n0_ := Aside0.mk (below_step (by repeat (first | (with_reducible first | exact HB.out | apply below_alloc | apply pw_below_drewN | apply below_drew1) | exact HB.out)) hb); clear HB; have HB := n0_; clear n0_; (try clear hb); (try clear hb2); (try clear hk); (try clear hi)) | ((with_reducible refine gate_callee (f := 12) rfl ?_); refine goesL_ (some 32) rfl rfl Try.func12 (by kernel_rfl) rfl #[.int .i64 17, .int .u32 a0, .int .u32 a1, .string t277] rfl (by (try simp only [List.map_toArray, List.map_cons, List.map_nil]); first | done | rfl | (simp only [List.length_drop, List.length_take]; rfl)) ?_; (with_reducible refine (pseudo_Fill.calls 17 a0 a1 t277 t279 true _ A11.out).mono ?_); rintro e w27 ⟨rfl, hb⟩; (try clear A11); refine ⟨_, rfl, ?_⟩; have n0_ := Aside0.mk (below_step (by repeat (first | (with_reducible first | exact HB.out | apply below_alloc | apply pw_below_drewN | apply below_drew1) | exact HB.out)) hb); clear HB; have HB := n0_; clear n0_; (try clear hb); (try clear hb2); (try clear hk); (try clear hi)) | ((with_reducible refine gate_callee (f := 12) rfl ?_); refine goesL_ (some 41) rfl rfl Try.func12 (by kernel_rfl) rfl #[.int .i64 17, .int .u32 a0, .int .u32 a1, .string (t277 ++ a3)] rfl (by (try simp only [List.map_toArray, List.map_cons, List.map_nil]); first | done | rfl | (simp only [List.length_drop, List.length_take]; rfl)) ?_; (with_reducible refine (pseudo_Fill.calls 17 a0 a1 (t277 ++ a3) t281 true _ A13.out).mono ?_); rintro e w28 ⟨rfl, hb⟩; (try clear A13); refine ⟨_, rfl, ?_⟩; have n0_ := Aside0.mk (below_step (by repeat (first | (with_reducible first | exact HB.out | apply below_alloc | apply pw_below_drewN | apply below_drew1) | exact HB.out)) hb); clear HB; have HB := n0_; clear n0_; (try clear hb); (try clear hb2); (try clear hk); (try clear hi)))
                    go_ret
                    exact ⟨by first | rfl | (simp [errW_none, errW_some] <;> rfl) | (simp only [← hji7]; first | rfl | (simp [errW_none, errW_some] <;> rfl)) | (simp [*, errW_none, errW_some] <;> rfl), by repeat (first | (with_reducible first | exact HB.out | apply below_alloc | apply pw_below_drewN | apply below_drew1) | exact HB.out)⟩
                · rw [if_neg c17] at H
                  exact absurd H (by simp)
              · replace c16 := Bool.eq_false_iff.mpr c16
                subst c16
                have H1 : (some false) = some r := by rw [if_neg (show ¬ (false = true) by decide)] at H; exact H
                clear H
                have H := H1
                clear H1
                obtain rfl := Option.some.inj H
                go_enter Try.func8, Try.ntmps8
                go_wp2_with (first | ((with_reducible refine gate_callee (f := 9) rfl ?_); refine goesL_ (some 16) rfl rfl Try.func9 (by kernel_rfl) rfl #[] rfl (by (try simp only [List.map_toArray, List.map_cons, List.map_nil]); first | done | rfl | (simp only [List.length_drop, List.length_take]; rfl)) ?_; (with_reducible refine (weighbridgelaw08_examples.calls  true _ A5.out).mono ?_); rintro e w29 ⟨rfl, hb⟩; (try clear A5); refine ⟨_, rfl, ?_⟩; have n0_ := Aside0.mk (below_step (by repeat (first | (with_reducible first | exact HB.out | apply below_alloc | apply pw_below_drewN | apply below_drew1) | exact HB.out)) hb); clear HB; have HB := n0_; clear n0_; (try clear hb); (try clear hb2); (try clear hk); (try clear hi)) | ((with_reducible refine gate_callee (f := 18) rfl ?_); refine goesL_ (some 25) rfl rfl Try.func18 (by kernel_rfl) rfl #[.int .i64 7, .int .i64 9, .string (a2.extract 0 ((ji7) : Int).toNat)] rfl (by (try simp only [List.map_toArray, List.map_cons, List.map_nil]); first | done | (simp only [hji7]; rfl) | rfl | (simp only [List.length_drop, List.length_take]; rfl)) ?_; (with_reducible refine (udp_Build.calls 7 9 (a2.extract 0 ((ji7) : Int).toNat) t277 t278 _ A10.out).mono ?_); rintro e w30 ⟨rfl, hb⟩; (try clear A10); refine ⟨_, rfl, ?_⟩; have n0_ := Aside0.mk (below_step (by repeat (first | (with_reducible first | exact HB.out | apply below_alloc | apply pw_below_drewN | apply below_drew1) | exact HB.out)) hb); clear HB; have HB := n0_; clear n0_; (try clear hb); (try clear hb2); (try clear hk); (try clear hi)) | ((with_reducible refine gate_callee (f := 12) rfl ?_); refine goesL_ (some 32) rfl rfl Try.func12 (by kernel_rfl) rfl #[.int .i64 17, .int .u32 a0, .int .u32 a1, .string t277] rfl (by (try simp only [List.map_toArray, List.map_cons, List.map_nil]); first | done | rfl | (simp only [List.length_drop, List.length_take]; rfl)) ?_; (with_reducible refine (pseudo_Fill.calls 17 a0 a1 t277 t279 true _ A11.out).mono ?_); rintro e w31 ⟨rfl, hb⟩; (try clear A11); refine ⟨_, rfl, ?_⟩; have n0_ := Aside0.mk (below_step (by repeat (first | (with_reducible first | exact HB.out | apply below_alloc | apply pw_below_drewN | apply below_drew1) | exact HB.out)) hb); clear HB; have HB := n0_; clear n0_; (try clear hb); (try clear hb2); (try clear hk); (try clear hi)) | ((with_reducible refine gate_callee (f := 12) rfl ?_); refine goesL_ (some 41) rfl rfl Try.func12 (by kernel_rfl) rfl #[.int .i64 17, .int .u32 a0, .int .u32 a1, .string (t277 ++ a3)] rfl (by (try simp only [List.map_toArray, List.map_cons, List.map_nil]); first | done | rfl | (simp only [List.length_drop, List.length_take]; rfl)) ?_; (with_reducible refine (pseudo_Fill.calls 17 a0 a1 (t277 ++ a3) t281 false _ A13.out).mono ?_); rintro e w32 ⟨rfl, hb⟩; (try clear A13); refine ⟨_, rfl, ?_⟩; have n0_ := Aside0.mk (below_step (by repeat (first | (with_reducible first | exact HB.out | apply below_alloc | apply pw_below_drewN | apply below_drew1) | exact HB.out)) hb); clear HB; have HB := n0_; clear n0_; (try clear hb); (try clear hb2); (try clear hk); (try clear hi)))
                go_ret
                exact ⟨by first | rfl | (simp [errW_none, errW_some] <;> rfl) | (simp only [← hji7]; first | rfl | (simp [errW_none, errW_some] <;> rfl)) | (simp [*, errW_none, errW_some] <;> rfl), by repeat (first | (with_reducible first | exact HB.out | apply below_alloc | apply pw_below_drewN | apply below_drew1) | exact HB.out)⟩
            · replace c15 := Bool.eq_false_iff.mpr c15
              subst c15
              have H1 : (some false) = some r := by rw [if_neg (show ¬ (false = true) by decide)] at H; exact H
              clear H
              have H := H1
              clear H1
              obtain rfl := Option.some.inj H
              go_enter Try.func8, Try.ntmps8
              go_wp2_with (first | ((with_reducible refine gate_callee (f := 9) rfl ?_); refine goesL_ (some 16) rfl rfl Try.func9 (by kernel_rfl) rfl #[] rfl (by (try simp only [List.map_toArray, List.map_cons, List.map_nil]); first | done | rfl | (simp only [List.length_drop, List.length_take]; rfl)) ?_; (with_reducible refine (weighbridgelaw08_examples.calls  true _ A5.out).mono ?_); rintro e w33 ⟨rfl, hb⟩; (try clear A5); refine ⟨_, rfl, ?_⟩; have n0_ := Aside0.mk (below_step (by repeat (first | (with_reducible first | exact HB.out | apply below_alloc | apply pw_below_drewN | apply below_drew1) | exact HB.out)) hb); clear HB; have HB := n0_; clear n0_; (try clear hb); (try clear hb2); (try clear hk); (try clear hi)) | ((with_reducible refine gate_callee (f := 18) rfl ?_); refine goesL_ (some 25) rfl rfl Try.func18 (by kernel_rfl) rfl #[.int .i64 7, .int .i64 9, .string (a2.extract 0 ((ji7) : Int).toNat)] rfl (by (try simp only [List.map_toArray, List.map_cons, List.map_nil]); first | done | (simp only [hji7]; rfl) | rfl | (simp only [List.length_drop, List.length_take]; rfl)) ?_; (with_reducible refine (udp_Build.calls 7 9 (a2.extract 0 ((ji7) : Int).toNat) t277 t278 _ A10.out).mono ?_); rintro e w34 ⟨rfl, hb⟩; (try clear A10); refine ⟨_, rfl, ?_⟩; have n0_ := Aside0.mk (below_step (by repeat (first | (with_reducible first | exact HB.out | apply below_alloc | apply pw_below_drewN | apply below_drew1) | exact HB.out)) hb); clear HB; have HB := n0_; clear n0_; (try clear hb); (try clear hb2); (try clear hk); (try clear hi)) | ((with_reducible refine gate_callee (f := 12) rfl ?_); refine goesL_ (some 32) rfl rfl Try.func12 (by kernel_rfl) rfl #[.int .i64 17, .int .u32 a0, .int .u32 a1, .string t277] rfl (by (try simp only [List.map_toArray, List.map_cons, List.map_nil]); first | done | rfl | (simp only [List.length_drop, List.length_take]; rfl)) ?_; (with_reducible refine (pseudo_Fill.calls 17 a0 a1 t277 t279 false _ A11.out).mono ?_); rintro e w35 ⟨rfl, hb⟩; (try clear A11); refine ⟨_, rfl, ?_⟩; have n0_ := Aside0.mk (below_step (by repeat (first | (with_reducible first | exact HB.out | apply below_alloc | apply pw_below_drewN | apply below_drew1) | exact HB.out)) hb); clear HB; have HB := n0_; clear n0_; (try clear hb); (try clear hb2); (try clear hk); (try clear hi)) | ((with_reducible refine gate_callee (f := 12) rfl ?_); refine goesL_ (some 41) rfl rfl Try.func12 (by kernel_rfl) rfl #[.int .i64 17, .int .u32 a0, .int .u32 a1, .string (t277 ++ a3)] rfl (by (try simp only [List.map_toArray, List.map_cons, List.map_nil]); first | done | rfl | (simp only [List.length_drop, List.length_take]; rfl)) ?_; (with_reducible refine (pseudo_Fill.calls 17 a0 a1 (t277 ++ a3) t281 t282 _ A13.out).mono ?_); rintro e w36 ⟨rfl, hb⟩; (try clear A13); refine ⟨_, rfl, ?_⟩; have n0_ := Aside0.mk (below_step (by repeat (first | (with_reducible first | exact HB.out | apply below_alloc | apply pw_below_drewN | apply below_drew1) | exact HB.out)) hb); clear HB; have HB := n0_; clear n0_; (try clear hb); (try clear hb2); (try clear hk); (try clear hi)))
              go_ret
              exact ⟨by first | rfl | (simp [errW_none, errW_some] <;> rfl) | (simp only [← hji7]; first | rfl | (simp [errW_none, errW_some] <;> rfl)) | (simp [*, errW_none, errW_some] <;> rfl), by repeat (first | (with_reducible first | exact HB.out | apply below_alloc | apply pw_below_drewN | apply below_drew1) | exact HB.out)⟩
          · rw [if_neg c14] at H
            have c14b0 : (t278 == 0) = false := beq_eq_false_iff_ne.mpr c14
            have c14b1 : (t278 != 0) = true := bne_iff_ne.mpr c14
            obtain rfl := Option.some.inj H
            go_enter Try.func8, Try.ntmps8
            go_wp2_with (first | ((with_reducible refine gate_callee (f := 9) rfl ?_); refine goesL_ (some 16) rfl rfl Try.func9 (by kernel_rfl) rfl #[] rfl (by (try simp only [List.map_toArray, List.map_cons, List.map_nil]); first | done | rfl | (simp only [List.length_drop, List.length_take]; rfl)) ?_; (with_reducible refine (weighbridgelaw08_examples.calls  true _ A5.out).mono ?_); rintro e w37 ⟨rfl, hb⟩; (try clear A5); refine ⟨_, rfl, ?_⟩; have n0_ := Aside0.mk (below_step (by repeat (first | (with_reducible first | exact HB.out | apply below_alloc | apply pw_below_drewN | apply below_drew1) | exact HB.out)) hb); clear HB; have HB := n0_; clear n0_; (try clear hb); (try clear hb2); (try clear hk); (try clear hi)) | ((with_reducible refine gate_callee (f := 18) rfl ?_); refine goesL_ (some 25) rfl rfl Try.func18 (by kernel_rfl) rfl #[.int .i64 7, .int .i64 9, .string (a2.extract 0 ((ji7) : Int).toNat)] rfl (by (try simp only [List.map_toArray, List.map_cons, List.map_nil]); first | done | (simp only [hji7]; rfl) | rfl | (simp only [List.length_drop, List.length_take]; rfl)) ?_; (with_reducible refine (udp_Build.calls 7 9 (a2.extract 0 ((ji7) : Int).toNat) t277 t278 _ A10.out).mono ?_); rintro e w38 ⟨rfl, hb⟩; (try clear A10); refine ⟨_, rfl, ?_⟩; have n0_ := Aside0.mk (below_step (by repeat (first | (with_reducible first | exact HB.out | apply below_alloc | apply pw_below_drewN | apply below_drew1) | exact HB.out)) hb); clear HB; have HB := n0_; clear n0_; (try clear hb); (try clear hb2); (try clear hk); (try clear hi)) | ((with_reducible refine gate_callee (f := 12) rfl ?_); refine goesL_ (some 32) rfl rfl Try.func12 (by kernel_rfl) rfl #[.int .i64 17, .int .u32 a0, .int .u32 a1, .string t277] rfl (by (try simp only [List.map_toArray, List.map_cons, List.map_nil]); first | done | rfl | (simp only [List.length_drop, List.length_take]; rfl)) ?_; (with_reducible refine (pseudo_Fill.calls 17 a0 a1 t277 t279 t280 _ A11.out).mono ?_); rintro e w39 ⟨rfl, hb⟩; (try clear A11); refine ⟨_, rfl, ?_⟩; have n0_ := Aside0.mk (below_step (by repeat (first | (with_reducible first | exact HB.out | apply below_alloc | apply pw_below_drewN | apply below_drew1) | exact HB.out)) hb); clear HB; have HB := n0_; clear n0_; (try clear hb); (try clear hb2); (try clear hk); (try clear hi)) | ((with_reducible refine gate_callee (f := 12) rfl ?_); refine goesL_ (some 41) rfl rfl Try.func12 (by kernel_rfl) rfl #[.int .i64 17, .int .u32 a0, .int .u32 a1, .string (t277 ++ a3)] rfl (by (try simp only [List.map_toArray, List.map_cons, List.map_nil]); first | done | rfl | (simp only [List.length_drop, List.length_take]; rfl)) ?_; (with_reducible refine (pseudo_Fill.calls 17 a0 a1 (t277 ++ a3) t281 t282 _ A13.out).mono ?_); rintro e w40 ⟨rfl, hb⟩; (try clear A13); refine ⟨_, rfl, ?_⟩; have n0_ := Aside0.mk (below_step (by repeat (first | (with_reducible first | exact HB.out | apply below_alloc | apply pw_below_drewN | apply below_drew1) | exact HB.out)) hb); clear HB; have HB := n0_; clear n0_; (try clear hb); (try clear hb2); (try clear hk); (try clear hi)))
            go_ret
            exact ⟨by first | rfl | (simp [errW_none, errW_some] <;> rfl) | (simp only [← hji7]; first | rfl | (simp [errW_none, errW_some] <;> rfl)) | (simp [*, errW_none, errW_some] <;> rfl), by repeat (first | (with_reducible first | exact HB.out | apply below_alloc | apply pw_below_drewN | apply below_drew1) | exact HB.out)⟩
        · rw [if_neg c12] at H
          exact absurd H (by simp)
      · rw [if_neg c9] at H
        exact absurd H (by simp)
    · rw [if_neg c8] at H
      exact absurd H (by simp)
  · replace c6 := Bool.eq_false_iff.mpr c6
    subst c6
    have H1 : (some false) = some r := by rw [if_neg (show ¬ (false = true) by decide)] at H; exact H
    clear H
    have H := H1
    clear H1
    obtain rfl := Option.some.inj H
    go_enter Try.func8, Try.ntmps8
    go_wp2_with (first | ((with_reducible refine gate_callee (f := 9) rfl ?_); refine goesL_ (some 16) rfl rfl Try.func9 (by kernel_rfl) rfl #[] rfl (by (try simp only [List.map_toArray, List.map_cons, List.map_nil]); first | done | rfl | (simp only [List.length_drop, List.length_take]; rfl)) ?_; (with_reducible refine (weighbridgelaw08_examples.calls  false _ A5.out).mono ?_); rintro e w41 ⟨rfl, hb⟩; (try clear A5); refine ⟨_, rfl, ?_⟩; have n0_ := Aside0.mk (below_step (by repeat (first | (with_reducible first | exact HB.out | apply below_alloc | apply pw_below_drewN | apply below_drew1) | exact HB.out)) hb); clear HB; have HB := n0_; clear n0_; (try clear hb); (try clear hb2); (try clear hk); (try clear hi)))
    go_ret
    exact ⟨by first | rfl | (simp [errW_none, errW_some] <;> rfl) | (simp [*, errW_none, errW_some] <;> rfl), by repeat (first | (with_reducible first | exact HB.out | apply below_alloc | apply pw_below_drewN | apply below_drew1) | exact HB.out)⟩

/-- THE ONE PURE STATEMENT of weighbridgelaw08_PseudoBehind: yours. -/
def weighbridgelaw08_PseudoBehind.Pure : Prop := ∀ (a0 : Int) (a1 : Int) (a2 : ByteArray) (a3 : ByteArray), (Lit.int .u32 a0).wf = true → (Lit.int .u32 a1).wf = true → a2.size ≤ 140737488351232 → a3.size ≤ 140737488351232 → weighbridgelaw08_PseudoBehind.f a0 a1 a2 a3 = some true
theorem weighbridgelaw08_PseudoBehind.walk (P : weighbridgelaw08_PseudoBehind.Pure) (a0 : Int) (a1 : Int) (a2 : ByteArray) (a3 : ByteArray) (w : World) (w0 : (Lit.int .u32 a0).wf = true) (w1 : (Lit.int .u32 a1).wf = true) (w2 : a2.size ≤ 140737488351232) (w3 : a3.size ≤ 140737488351232) :
    Calls Try.prog 8 #[.int .u32 a0, .int .u32 a1, .string a2, .string a3] w fun e w' => e = .returned (.bool true) ∧ Below w.heap.size w w' := by
  have h := P a0 a1 a2 a3 w0 w1 w2 w3
  refine (weighbridgelaw08_PseudoBehind.calls a0 a1 a2 a3 true w h).mono ?_
  rintro e w' ⟨rfl, hd⟩
  exact ⟨rfl, hd⟩
def weighbridgelaw08_PseudoBehind.PureU : Prop := ∀ (a0 : Int) (a1 : Int) (a2 : ByteArray) (a3 : ByteArray), (Lit.int .u32 a0).wf = true → (Lit.int .u32 a1).wf = true → a2.size ≤ 1048576 → a3.size ≤ 1048576 → weighbridgelaw08_PseudoBehind.f a0 a1 a2 a3 = some true
theorem weighbridgelaw08_PseudoBehind.walkU (P : weighbridgelaw08_PseudoBehind.PureU) (a0 : Int) (a1 : Int) (a2 : ByteArray) (a3 : ByteArray) (w : World) (w0 : (Lit.int .u32 a0).wf = true) (w1 : (Lit.int .u32 a1).wf = true) (w2 : a2.size ≤ 1048576) (w3 : a3.size ≤ 1048576) :
    Calls Try.prog 8 #[.int .u32 a0, .int .u32 a1, .string a2, .string a3] w fun e w' => e = .returned (.bool true) ∧ Below w.heap.size w w' := by
  have h := P a0 a1 a2 a3 w0 w1 w2 w3
  refine (weighbridgelaw08_PseudoBehind.calls a0 a1 a2 a3 true w h).mono ?_
  rintro e w' ⟨rfl, hd⟩
  exact ⟨rfl, hd⟩

end Go.Proofs.Ytpjimpdfjacnoaa.Pr
