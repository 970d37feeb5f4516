-- Written by a program of the session (wip/tools) out of the translation, over the kit's print; with pieces of the session's own.
import Derived.Test.YtpjimpdfjacnoaaPr0
import Derived.Test.YtpjimpdfjacnoaaPr7
namespace Go.Proofs.Ytpjimpdfjacnoaa.Pr
open Go.RowKit Go.Proofs.YtpjimpdfjacnoaaW.PrintWords Go.Proofs.YtpjimpdfjacnoaaW.PrintLast Go.Proofs.YtpjimpdfjacnoaaW.PrintMore
attribute [local go_sem] max2_int min2_int max_two min_two max_three min_three max_four min_four   -- for this text's walks alone
set_option linter.unusedVariables false
set_option linter.unusedSimpArgs false
open Go.Proofs.Ytpjimpdfjacnoaa.Sp
/-! ### weighbridgeref06_Parse_p: function 43 -/
def weighbridgeref06_Parse_p.f (a0 : ByteArray) : Option (Int × Int × ByteArray × Int) := if (a0.size : Int) < 8 then (some (0, 0, (⟨#[]⟩ : ByteArray), 2)) else ((weighbridgeref01_Get.f a0 0 2).bind fun bt149 => ((weighbridgeref01_Get.f a0 2 2).bind fun bt151 => ((weighbridgeref01_Get.f a0 4 2).bind fun bt153 => (if bt153.1 < 8 then (some (0, 0, (⟨#[]⟩ : ByteArray), 5)) else (if bt153.1 > (a0.size : Int) then (some (0, 0, (⟨#[]⟩ : ByteArray), 5)) else (if 8 ≤ bt153.1 then (if bt153.1 ≤ (a0.size : Int) then (some (bt149.1, bt151.1, a0.extract 8 (bt153.1 : Int).toNat, 0)) else (none)) else (none)))))))
set_option maxHeartbeats 8000000 in
set_option maxRecDepth 100000 in
theorem weighbridgeref06_Parse_p.calls (a0 : ByteArray) (r1 : Int) (r2 : Int) (r3 : ByteArray) (r4 : Int) (w : World) (h : weighbridgeref06_Parse_p.f a0 = some (r1, r2, r3, r4)) :
    Calls Try.prog 43 #[.string a0] w fun e w' => e = .returned (.tuple #[.int .i64 r1, .int .i64 r2, .string r3, .int .i64 r4]) ∧ Drawn0 w w' := by
  have H : (if (a0.size : Int) < 8 then (some (0, 0, (⟨#[]⟩ : ByteArray), 2)) else ((weighbridgeref01_Get.f a0 0 2).bind fun bt149 => ((weighbridgeref01_Get.f a0 2 2).bind fun bt151 => ((weighbridgeref01_Get.f a0 4 2).bind fun bt153 => (if bt153.1 < 8 then (some (0, 0, (⟨#[]⟩ : ByteArray), 5)) else (if bt153.1 > (a0.size : Int) then (some (0, 0, (⟨#[]⟩ : ByteArray), 5)) else (if 8 ≤ bt153.1 then (if bt153.1 ≤ (a0.size : Int) then (some (bt149.1, bt151.1, a0.extract 8 (bt153.1 : Int).toNat, 0)) else (none)) else (none)))))))) = some (r1, r2, r3, r4) := h
  clear h
  by_cases c2 : (a0.size : Int) < 8
  · rw [if_pos c2] at H
    have c2b0 : decide ((a0.size : Int) < 8) = true := decide_eq_true c2
    have c2b1 : decide (a0.size < 8) = true := decide_eq_true (by omega)
    clear c2
    simp only [Option.some.injEq, Prod.mk.injEq] at H
    obtain ⟨rfl, rfl, rfl, rfl⟩ := H
    go_enter Try.func43, Try.ntmps43
    go_wp2
    repeat (go_quiet (fail); try go_wp2)
    refine bodyPost_ret (results_list (rs := [.tmp 2, .tmp 3, .tmp 4, .tmp 5]) rfl (by simp) (.tmp (.tmp (.tmp (.tmp .nil))))) rfl ?_
    exact ⟨by first | rfl | (simp; done) | (simp [*]; done), by repeat (first | exact Drawn0.refl _ | apply Drawn0.step)⟩
  · rw [if_neg c2] at H
    have c2b0 : decide ((a0.size : Int) < 8) = false := decide_eq_false c2
    have c2b1 : decide (a0.size < 8) = false := decide_eq_false (by omega)
    clear c2
    replace H := Option.bind_eq_some_iff.mp H
    obtain ⟨⟨t149, t150⟩, A30, H⟩ := H
    replace H : ((weighbridgeref01_Get.f a0 2 2).bind fun bt151 => ((weighbridgeref01_Get.f a0 4 2).bind fun bt153 => (if bt153.1 < 8 then (some (0, 0, (⟨#[]⟩ : ByteArray), 5)) else (if bt153.1 > (a0.size : Int) then (some (0, 0, (⟨#[]⟩ : ByteArray), 5)) else (if 8 ≤ bt153.1 then (if bt153.1 ≤ (a0.size : Int) then (some (t149, bt151.1, a0.extract 8 (bt153.1 : Int).toNat, 0)) else (none)) else (none)))))) = some (r1, r2, r3, r4) := H
    have A3 := Aside0.mk A30
    clear A30
    replace H := Option.bind_eq_some_iff.mp H
    obtain ⟨⟨t151, t152⟩, A40, H⟩ := H
    replace H : ((weighbridgeref01_Get.f a0 4 2).bind fun bt153 => (if bt153.1 < 8 then (some (0, 0, (⟨#[]⟩ : ByteArray), 5)) else (if bt153.1 > (a0.size : Int) then (some (0, 0, (⟨#[]⟩ : ByteArray), 5)) else (if 8 ≤ bt153.1 then (if bt153.1 ≤ (a0.size : Int) then (some (t149, t151, a0.extract 8 (bt153.1 : Int).toNat, 0)) else (none)) else (none))))) = some (r1, r2, r3, r4) := H
    have A4 := Aside0.mk A40
    clear A40
    replace H := Option.bind_eq_some_iff.mp H
    obtain ⟨⟨t153, t154⟩, A50, H⟩ := H
    replace H : (if t153 < 8 then (some (0, 0, (⟨#[]⟩ : ByteArray), 5)) else (if t153 > (a0.size : Int) then (some (0, 0, (⟨#[]⟩ : ByteArray), 5)) else (if 8 ≤ t153 then (if t153 ≤ (a0.size : Int) then (some (t149, t151, a0.extract 8 (t153 : Int).toNat, 0)) else (none)) else (none)))) = some (r1, r2, r3, r4) := H
    have A5 := Aside0.mk A50
    clear A50
    by_cases c6 : t153 < 8
    · rw [if_pos c6] at H
      have c6b0 : decide (t153 < 8) = true := decide_eq_true c6
      clear c6
      simp only [Option.some.injEq, Prod.mk.injEq] at H
      obtain ⟨rfl, rfl, rfl, rfl⟩ := H
      go_enter Try.func43, Try.ntmps43
      go_wp2_with (first | (go_at_call 27; (with_reducible refine (weighbridgeref01_Get.calls a0 0 2 t149 t150 _ A3.out).mono ?_); rintro e w' ⟨rfl, ⟨nd, rfl⟩⟩; (try first | exact ⟨rfl, _, World.drewN_drewN _ _ _⟩ | exact ⟨rfl, _, Eq.trans (World.drewN_drewN _ _ _) (congrArg (World.drewN _) (Nat.add_assoc _ _ _))⟩)) | (go_at_call 27; (with_reducible refine (weighbridgeref01_Get.calls a0 2 2 t151 t152 _ A4.out).mono ?_); rintro e w' ⟨rfl, ⟨nd, rfl⟩⟩; (try first | exact ⟨rfl, _, World.drewN_drewN _ _ _⟩ | exact ⟨rfl, _, Eq.trans (World.drewN_drewN _ _ _) (congrArg (World.drewN _) (Nat.add_assoc _ _ _))⟩)) | (go_at_call 27; (with_reducible refine (weighbridgeref01_Get.calls a0 4 2 t153 t154 _ A5.out).mono ?_); rintro e w' ⟨rfl, ⟨nd, rfl⟩⟩; (try first | exact ⟨rfl, _, World.drewN_drewN _ _ _⟩ | exact ⟨rfl, _, Eq.trans (World.drewN_drewN _ _ _) (congrArg (World.drewN _) (Nat.add_assoc _ _ _))⟩)))
      repeat (go_quiet (first | (go_at_call 27; (with_reducible refine (weighbridgeref01_Get.calls a0 0 2 t149 t150 _ A3.out).mono ?_); rintro e w' ⟨rfl, ⟨nd, rfl⟩⟩; (try first | exact ⟨rfl, _, World.drewN_drewN _ _ _⟩ | exact ⟨rfl, _, Eq.trans (World.drewN_drewN _ _ _) (congrArg (World.drewN _) (Nat.add_assoc _ _ _))⟩)) | (go_at_call 27; (with_reducible refine (weighbridgeref01_Get.calls a0 2 2 t151 t152 _ A4.out).mono ?_); rintro e w' ⟨rfl, ⟨nd, rfl⟩⟩; (try first | exact ⟨rfl, _, World.drewN_drewN _ _ _⟩ | exact ⟨rfl, _, Eq.trans (World.drewN_drewN _ _ _) (congrArg (World.drewN _) (Nat.add_assoc _ _ _))⟩)) | (go_at_call 27; (with_reducible refine (weighbridgeref01_Get.calls a0 4 2 t153 t154 _ A5.out).mono ?_); rintro e w' ⟨rfl, ⟨nd, rfl⟩⟩; (try first | exact ⟨rfl, _, World.drewN_drewN _ _ _⟩ | exact ⟨rfl, _, Eq.trans (World.drewN_drewN _ _ _) (congrArg (World.drewN _) (Nat.add_assoc _ _ _))⟩))); try go_wp2_with (first | (go_at_call 27; (with_reducible refine (weighbridgeref01_Get.calls a0 0 2 t149 t150 _ A3.out).mono ?_); rintro e w' ⟨rfl, ⟨nd, rfl⟩⟩; (try first | exact ⟨rfl, _, World.drewN_drewN _ _ _⟩ | exact ⟨rfl, _, Eq.trans (World.drewN_drewN _ _ _) (congrArg (World.drewN _) (Nat.add_assoc _ _ _))⟩)) | (go_at_call 27; (with_reducible refine (weighbridgeref01_Get.calls a0 2 2 t151 t152 _ A4.out).mono ?_); rintro e w' ⟨rfl, ⟨nd, rfl⟩⟩; (try first | exact ⟨rfl, _, World.drewN_drewN _ _ _⟩ | exact ⟨rfl, _, Eq.trans (World.drewN_drewN _ _ _) (congrArg (World.drewN _) (Nat.add_assoc _ _ _))⟩)) | (go_at_call 27; (with_reducible refine (weighbridgeref01_Get.calls a0 4 2 t153 t154 _ A5.out).mono ?_); rintro e w' ⟨rfl, ⟨nd, rfl⟩⟩; (try first | exact ⟨rfl, _, World.drewN_drewN _ _ _⟩ | exact ⟨rfl, _, Eq.trans (World.drewN_drewN _ _ _) (congrArg (World.drewN _) (Nat.add_assoc _ _ _))⟩))))
      refine bodyPost_ret (results_list (rs := [.tmp 2, .tmp 3, .tmp 4, .tmp 5]) rfl (by simp) (.tmp (.tmp (.tmp (.tmp .nil))))) rfl ?_
      exact ⟨by first | rfl | (simp; done) | (simp [*]; done), by repeat (first | exact Drawn0.refl _ | apply Drawn0.step)⟩
    · rw [if_neg c6] at H
      have c6b0 : decide (t153 < 8) = false := decide_eq_false c6
      clear c6
      by_cases c7 : t153 > (a0.size : Int)
      · rw [if_pos c7] at H
        have c7b0 : decide ((a0.size : Int) < t153) = true := decide_eq_true c7
        clear c7
        simp only [Option.some.injEq, Prod.mk.injEq] at H
        obtain ⟨rfl, rfl, rfl, rfl⟩ := H
        go_enter Try.func43, Try.ntmps43
        go_wp2_with (first | (go_at_call 27; (with_reducible refine (weighbridgeref01_Get.calls a0 0 2 t149 t150 _ A3.out).mono ?_); rintro e w' ⟨rfl, ⟨nd, rfl⟩⟩; (try first | exact ⟨rfl, _, World.drewN_drewN _ _ _⟩ | exact ⟨rfl, _, Eq.trans (World.drewN_drewN _ _ _) (congrArg (World.drewN _) (Nat.add_assoc _ _ _))⟩)) | (go_at_call 27; (with_reducible refine (weighbridgeref01_Get.calls a0 2 2 t151 t152 _ A4.out).mono ?_); rintro e w' ⟨rfl, ⟨nd, rfl⟩⟩; (try first | exact ⟨rfl, _, World.drewN_drewN _ _ _⟩ | exact ⟨rfl, _, Eq.trans (World.drewN_drewN _ _ _) (congrArg (World.drewN _) (Nat.add_assoc _ _ _))⟩)) | (go_at_call 27; (with_reducible refine (weighbridgeref01_Get.calls a0 4 2 t153 t154 _ A5.out).mono ?_); rintro e w' ⟨rfl, ⟨nd, rfl⟩⟩; (try first | exact ⟨rfl, _, World.drewN_drewN _ _ _⟩ | exact ⟨rfl, _, Eq.trans (World.drewN_drewN _ _ _) (congrArg (World.drewN _) (Nat.add_assoc _ _ _))⟩)))
        repeat (go_quiet (first | (go_at_call 27; (with_reducible refine (weighbridgeref01_Get.calls a0 0 2 t149 t150 _ A3.out).mono ?_); rintro e w' ⟨rfl, ⟨nd, rfl⟩⟩; (try first | exact ⟨rfl, _, World.drewN_drewN _ _ _⟩ | exact ⟨rfl, _, Eq.trans (World.drewN_drewN _ _ _) (congrArg (World.drewN _) (Nat.add_assoc _ _ _))⟩)) | (go_at_call 27; (with_reducible refine (weighbridgeref01_Get.calls a0 2 2 t151 t152 _ A4.out).mono ?_); rintro e w' ⟨rfl, ⟨nd, rfl⟩⟩; (try first | exact ⟨rfl, _, World.drewN_drewN _ _ _⟩ | exact ⟨rfl, _, Eq.trans (World.drewN_drewN _ _ _) (congrArg (World.drewN _) (Nat.add_assoc _ _ _))⟩)) | (go_at_call 27; (with_reducible refine (weighbridgeref01_Get.calls a0 4 2 t153 t154 _ A5.out).mono ?_); rintro e w' ⟨rfl, ⟨nd, rfl⟩⟩; (try first | exact ⟨rfl, _, World.drewN_drewN _ _ _⟩ | exact ⟨rfl, _, Eq.trans (World.drewN_drewN _ _ _) (congrArg (World.drewN _) (Nat.add_assoc _ _ _))⟩))); try go_wp2_with (first | (go_at_call 27; (with_reducible refine (weighbridgeref01_Get.calls a0 0 2 t149 t150 _ A3.out).mono ?_); rintro e w' ⟨rfl, ⟨nd, rfl⟩⟩; (try first | exact ⟨rfl, _, World.drewN_drewN _ _ _⟩ | exact ⟨rfl, _, Eq.trans (World.drewN_drewN _ _ _) (congrArg (World.drewN _) (Nat.add_assoc _ _ _))⟩)) | (go_at_call 27; (with_reducible refine (weighbridgeref01_Get.calls a0 2 2 t151 t152 _ A4.out).mono ?_); rintro e w' ⟨rfl, ⟨nd, rfl⟩⟩; (try first | exact ⟨rfl, _, World.drewN_drewN _ _ _⟩ | exact ⟨rfl, _, Eq.trans (World.drewN_drewN _ _ _) (congrArg (World.drewN _) (Nat.add_assoc _ _ _))⟩)) | (go_at_call 27; (with_reducible refine (weighbridgeref01_Get.calls a0 4 2 t153 t154 _ A5.out).mono ?_); rintro e w' ⟨rfl, ⟨nd, rfl⟩⟩; (try first | exact ⟨rfl, _, World.drewN_drewN _ _ _⟩ | exact ⟨rfl, _, Eq.trans (World.drewN_drewN _ _ _) (congrArg (World.drewN _) (Nat.add_assoc _ _ _))⟩))))
        refine bodyPost_ret (results_list (rs := [.tmp 2, .tmp 3, .tmp 4, .tmp 5]) rfl (by simp) (.tmp (.tmp (.tmp (.tmp .nil))))) rfl ?_
        exact ⟨by first | rfl | (simp; done) | (simp [*]; done), by repeat (first | exact Drawn0.refl _ | apply Drawn0.step)⟩
      · rw [if_neg c7] at H
        have c7b0 : decide ((a0.size : Int) < t153) = false := decide_eq_false c7
        clear c7
        by_cases c8 : 8 ≤ t153
        · rw [if_pos c8] at H
          have c8b0 := eq_true c8
          have c8b1 : decide (8 ≤ t153) = true := decide_eq_true c8
          clear c8
          by_cases c9 : t153 ≤ (a0.size : Int)
          · rw [if_pos c9] at H
            have c9b0 := eq_true c9
            have c9b1 : decide (t153 ≤ (a0.size : Int)) = true := decide_eq_true c9
            clear c9
            simp only [Option.some.injEq, Prod.mk.injEq] at H
            obtain ⟨rfl, rfl, rfl, rfl⟩ := H
            go_enter Try.func43, Try.ntmps43
            go_wp2_with (first | (go_at_call 27; (with_reducible refine (weighbridgeref01_Get.calls a0 0 2 t149 t150 _ A3.out).mono ?_); rintro e w' ⟨rfl, ⟨nd, rfl⟩⟩; (try first | exact ⟨rfl, _, World.drewN_drewN _ _ _⟩ | exact ⟨rfl, _, Eq.trans (World.drewN_drewN _ _ _) (congrArg (World.drewN _) (Nat.add_assoc _ _ _))⟩)) | (go_at_call 27; (with_reducible refine (weighbridgeref01_Get.calls a0 2 2 t151 t152 _ A4.out).mono ?_); rintro e w' ⟨rfl, ⟨nd, rfl⟩⟩; (try first | exact ⟨rfl, _, World.drewN_drewN _ _ _⟩ | exact ⟨rfl, _, Eq.trans (World.drewN_drewN _ _ _) (congrArg (World.drewN _) (Nat.add_assoc _ _ _))⟩)) | (go_at_call 27; (with_reducible refine (weighbridgeref01_Get.calls a0 4 2 t153 t154 _ A5.out).mono ?_); rintro e w' ⟨rfl, ⟨nd, rfl⟩⟩; (try first | exact ⟨rfl, _, World.drewN_drewN _ _ _⟩ | exact ⟨rfl, _, Eq.trans (World.drewN_drewN _ _ _) (congrArg (World.drewN _) (Nat.add_assoc _ _ _))⟩)))
            repeat (go_quiet (first | (go_at_call 27; (with_reducible refine (weighbridgeref01_Get.calls a0 0 2 t149 t150 _ A3.out).mono ?_); rintro e w' ⟨rfl, ⟨nd, rfl⟩⟩; (try first | exact ⟨rfl, _, World.drewN_drewN _ _ _⟩ | exact ⟨rfl, _, Eq.trans (World.drewN_drewN _ _ _) (congrArg (World.drewN _) (Nat.add_assoc _ _ _))⟩)) | (go_at_call 27; (with_reducible refine (weighbridgeref01_Get.calls a0 2 2 t151 t152 _ A4.out).mono ?_); rintro e w' ⟨rfl, ⟨nd, rfl⟩⟩; (try first | exact ⟨rfl, _, World.drewN_drewN _ _ _⟩ | exact ⟨rfl, _, Eq.trans (World.drewN_drewN _ _ _) (congrArg (World.drewN _) (Nat.add_assoc _ _ _))⟩)) | (go_at_call 27; (with_reducible refine (weighbridgeref01_Get.calls a0 4 2 t153 t154 _ A5.out).mono ?_); rintro e w' ⟨rfl, ⟨nd, rfl⟩⟩; (try first | exact ⟨rfl, _, World.drewN_drewN _ _ _⟩ | exact ⟨rfl, _, Eq.trans (World.drewN_drewN _ _ _) (congrArg (World.drewN _) (Nat.add_assoc _ _ _))⟩))); try go_wp2_with (first | (go_at_call 27; (with_reducible refine (weighbridgeref01_Get.calls a0 0 2 t149 t150 _ A3.out).mono ?_); rintro e w' ⟨rfl, ⟨nd, rfl⟩⟩; (try first | exact ⟨rfl, _, World.drewN_drewN _ _ _⟩ | exact ⟨rfl, _, Eq.trans (World.drewN_drewN _ _ _) (congrArg (World.drewN _) (Nat.add_assoc _ _ _))⟩)) | (go_at_call 27; (with_reducible refine (weighbridgeref01_Get.calls a0 2 2 t151 t152 _ A4.out).mono ?_); rintro e w' ⟨rfl, ⟨nd, rfl⟩⟩; (try first | exact ⟨rfl, _, World.drewN_drewN _ _ _⟩ | exact ⟨rfl, _, Eq.trans (World.drewN_drewN _ _ _) (congrArg (World.drewN _) (Nat.add_assoc _ _ _))⟩)) | (go_at_call 27; (with_reducible refine (weighbridgeref01_Get.calls a0 4 2 t153 t154 _ A5.out).mono ?_); rintro e w' ⟨rfl, ⟨nd, rfl⟩⟩; (try first | exact ⟨rfl, _, World.drewN_drewN _ _ _⟩ | exact ⟨rfl, _, Eq.trans (World.drewN_drewN _ _ _) (congrArg (World.drewN _) (Nat.add_assoc _ _ _))⟩))))
            refine bodyPost_ret (results_list (rs := [.tmp 2, .tmp 3, .tmp 4, .tmp 5]) rfl (by simp) (.tmp (.tmp (.tmp (.tmp .nil))))) rfl ?_
            exact ⟨by first | rfl | (simp; done) | (simp [*]; done), by repeat (first | exact Drawn0.refl _ | apply Drawn0.step)⟩
          · rw [if_neg c9] at H
            exact absurd H (by simp)
        · rw [if_neg c8] at H
          exact absurd H (by simp)

def weighbridgeref06_Parse.f (a0 : ByteArray) : Option (Int × Int × ByteArray × Int) :=
  if a0.size ≤ big01 then some ((Sp.udpParse (bl a0)).1, (Sp.udpParse (bl a0)).2.1, lb (Sp.udpParse (bl a0)).2.2.1, (Sp.udpParse (bl a0)).2.2.2) else none
theorem weighbridgeref06_Parse_eq {a0 : ByteArray} (h : a0.size ≤ 281474976710656) : weighbridgeref06_Parse.f a0 = some ((Sp.udpParse (bl a0)).1, (Sp.udpParse (bl a0)).2.1, lb (Sp.udpParse (bl a0)).2.2.1, (Sp.udpParse (bl a0)).2.2.2) := by unfold weighbridgeref06_Parse.f; exact if_pos h
theorem weighbridgeref06_Parse_ev (a0 : ByteArray) (r : Int × Int × ByteArray × Int) (h : weighbridgeref06_Parse.f a0 = some r) : weighbridgeref06_Parse_p.f a0 = some r := by
  unfold weighbridgeref06_Parse.f at h
  split at h
  case isFalse => cases h
  case isTrue hs =>
    unfold big01 at hs
    rw [← h]
    unfold weighbridgeref06_Parse_p.f Sp.udpParse
    rw [bl_length]
    by_cases h8 : (a0.size : Int) < 8
    · rw [if_pos h8, if_pos h8]; rfl
    · rw [if_neg h8, if_neg h8, weighbridgeref01_Get_eq _ _ _ hs, weighbridgeref01_Get_eq _ _ _ hs, weighbridgeref01_Get_eq _ _ _ hs, Option.bind_some, Option.bind_some, Option.bind_some,
        show Sp.get (bl a0) 0 2 = (Sp.beNum (((bl a0).drop 0).take 2), true) from Sp.get2 (bl a0) 0 (by rw [bl_length]; omega), show Sp.get (bl a0) 2 2 = (Sp.beNum (((bl a0).drop 2).take 2), true) from Sp.get2 (bl a0) 2 (by rw [bl_length]; omega),
        show Sp.get (bl a0) 4 2 = (Sp.udpLen (bl a0), true) from Sp.get2 (bl a0) 4 (by rw [bl_length]; omega)]
      by_cases h1 : Sp.udpLen (bl a0) < 8
      · rw [if_pos h1, if_pos (Or.inl h1)]; rfl
      · rw [if_neg h1]
        by_cases h2 : Sp.udpLen (bl a0) > (a0.size : Int)
        · rw [if_pos h2, if_pos (Or.inr h2)]; rfl
        · rw [if_neg h2, if_pos (show 8 ≤ Sp.udpLen (bl a0) by omega), if_pos (show Sp.udpLen (bl a0) ≤ (a0.size : Int) by omega), if_neg (show ¬ (Sp.udpLen (bl a0) < 8 ∨ Sp.udpLen (bl a0) > (a0.size : Int)) by omega), List.drop_zero, ← Sp.lb_bl (a0.extract _ _), Sp.bl_extract]
theorem weighbridgeref06_Parse.calls (a0 : ByteArray) (r1 : Int) (r2 : Int) (r3 : ByteArray) (r4 : Int) (w : World) (h : weighbridgeref06_Parse.f a0 = some (r1, r2, r3, r4)) :
    Calls Try.prog 43 #[.string a0] w fun e w' => e = .returned (.tuple #[.int .i64 r1, .int .i64 r2, .string r3, .int .i64 r4]) ∧ Drawn0 w w' := by
  have hk := weighbridgeref06_Parse_ev a0 _ h
  exact weighbridgeref06_Parse_p.calls a0 r1 r2 r3 r4 w hk

/-! ### weighbridgeref06_Size_p: function 36 -/
def weighbridgeref06_Size_p.f (a0 : ByteArray) : Option (Int × Bool) := (weighbridgeref06_Parse.f a0).bind fun bt155 => (if bt155.2.2.2 = 0 then (some (wrap64 (8 + (bt155.2.2.1.size : Int)), true)) else (some (0, false)))
set_option maxHeartbeats 8000000 in
set_option maxRecDepth 100000 in
theorem weighbridgeref06_Size_p.calls (a0 : ByteArray) (r1 : Int) (r2 : Bool) (w : World) (h : weighbridgeref06_Size_p.f a0 = some (r1, r2)) :
    Calls Try.prog 36 #[.string a0] w fun e w' => e = .returned (.tuple #[.int .i64 r1, .bool r2]) ∧ Drawn0 w w' := by
  have H : ((weighbridgeref06_Parse.f a0).bind fun bt155 => (if bt155.2.2.2 = 0 then (some (wrap64 (8 + (bt155.2.2.1.size : Int)), true)) else (some (0, false)))) = some (r1, r2) := h
  clear h
  replace H := Option.bind_eq_some_iff.mp H
  obtain ⟨⟨t155, t156, t157, t158⟩, A20, H⟩ := H
  replace H : (if t158 = 0 then (some (wrap64 (8 + (t157.size : Int)), true)) else (some (0, false))) = some (r1, r2) := H
  have A2 := Aside0.mk A20
  clear A20
  by_cases c3 : t158 = 0
  · rw [if_pos c3] at H
    have c3b0 : (t158 == 0) = true := beq_iff_eq.mpr c3
    have c3b1 : (t158 != 0) = false := bne_eq_false_iff_eq.mpr c3
    clear c3
    simp only [Option.some.injEq, Prod.mk.injEq] at H
    obtain ⟨rfl, rfl⟩ := H
    go_enter Try.func36, Try.ntmps36
    go_wp2_with (first | ((with_reducible refine gate_callee (f := 43) rfl ?_); refine goesL_ (some 10) rfl rfl Try.func43 (by kernel_rfl) rfl #[.string a0] rfl (by (try simp only [List.map_toArray, List.map_cons, List.map_nil]); first | done | rfl | (simp only [List.length_drop, List.length_take]; rfl)) ?_; (with_reducible refine (weighbridgeref06_Parse.calls a0 t155 t156 t157 t158 _ A2.out).mono ?_); rintro e w' ⟨rfl, ⟨nd, rfl⟩⟩; refine ⟨_, rfl, ?_⟩))
    go_ret2
    exact ⟨by first | rfl | (simp; done) | (simp [*]; done), by repeat (first | exact Drawn0.refl _ | apply Drawn0.step)⟩
  · rw [if_neg c3] at H
    have c3b0 : (t158 == 0) = false := beq_eq_false_iff_ne.mpr c3
    have c3b1 : (t158 != 0) = true := bne_iff_ne.mpr c3
    simp only [Option.some.injEq, Prod.mk.injEq] at H
    obtain ⟨rfl, rfl⟩ := H
    go_enter Try.func36, Try.ntmps36
    go_wp2_with (first | ((with_reducible refine gate_callee (f := 43) rfl ?_); refine goesL_ (some 10) rfl rfl Try.func43 (by kernel_rfl) rfl #[.string a0] rfl (by (try simp only [List.map_toArray, List.map_cons, List.map_nil]); first | done | rfl | (simp only [List.length_drop, List.length_take]; rfl)) ?_; (with_reducible refine (weighbridgeref06_Parse.calls a0 t155 t156 t157 t158 _ A2.out).mono ?_); rintro e w' ⟨rfl, ⟨nd, rfl⟩⟩; refine ⟨_, rfl, ?_⟩))
    go_ret2
    exact ⟨by first | rfl | (simp; done) | (simp [*]; done), by repeat (first | exact Drawn0.refl _ | apply Drawn0.step)⟩

def weighbridgeref06_Size.f (a0 : ByteArray) : Option (Int × Bool) := if a0.size ≤ big01 then some (Sp.udpSize (bl a0)) else none
theorem weighbridgeref06_Size_eq {a0 : ByteArray} (h : a0.size ≤ 281474976710656) : weighbridgeref06_Size.f a0 = some (Sp.udpSize (bl a0)) := by unfold weighbridgeref06_Size.f; exact if_pos h
theorem weighbridgeref06_Size_ev (a0 : ByteArray) (r : Int × Bool) (h : weighbridgeref06_Size.f a0 = some r) : weighbridgeref06_Size_p.f a0 = some r := by
  unfold weighbridgeref06_Size.f at h
  split at h
  case isFalse => cases h
  case isTrue hs =>
    unfold big01 at hs
    rw [← h]
    unfold weighbridgeref06_Size_p.f
    rw [weighbridgeref06_Parse_eq hs, Option.bind_some]
    unfold Sp.udpParse Sp.udpSize
    rw [bl_length]
    by_cases h8 : (a0.size : Int) < 8
    · rw [if_pos h8, if_pos h8]; rfl
    · rw [if_neg h8, if_neg h8]
      by_cases h2 : Sp.udpLen (bl a0) < 8 ∨ Sp.udpLen (bl a0) > (a0.size : Int)
      · rw [if_pos h2, if_pos h2]; rfl
      · rw [if_neg h2, if_neg h2, if_pos rfl]
        have hl : (((bl a0).take (Sp.udpLen (bl a0)).toNat).drop 8).length = (Sp.udpLen (bl a0)).toNat - 8 := by rw [List.length_drop, List.length_take, bl_length]; omega
        show some (wrap64 (8 + ((lb (((bl a0).take (Sp.udpLen (bl a0)).toNat).drop 8)).size : Int)), true) = _
        rw [lb_size, hl, r6_wrap (by omega) (by omega)]
        congr 2
        omega

theorem weighbridgeref06_Size.calls (a0 : ByteArray) (r1 : Int) (r2 : Bool) (w : World) (h : weighbridgeref06_Size.f a0 = some (r1, r2)) :
    Calls Try.prog 36 #[.string a0] w fun e w' => e = .returned (.tuple #[.int .i64 r1, .bool r2]) ∧ Drawn0 w w' := by
  have hk := weighbridgeref06_Size_ev a0 _ h
  exact weighbridgeref06_Size_p.calls a0 r1 r2 w hk

end Go.Proofs.Ytpjimpdfjacnoaa.Pr
