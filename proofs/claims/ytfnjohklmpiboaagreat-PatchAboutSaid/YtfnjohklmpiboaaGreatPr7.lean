-- Written by a program of the session (wip/tools) out of the translation, over the kit's print; with pieces of the session's own.
import Derived.Test.YtfnjohklmpiboaaGreatPr0
import Derived.Test.YtfnjohklmpiboaaGreatPr2
import Derived.Test.YtfnjohklmpiboaaGreatPr3
namespace Go.Proofs.YtfnjohklmpiboaaGreat.Pr
open Go.RowKit Go.Proofs.YtfnjohklmpiboaaGreatW.PrintWords Go.Proofs.YtfnjohklmpiboaaGreatW.PrintLast Go.Proofs.YtfnjohklmpiboaaGreatW.PrintMore
attribute [local go_sem] max2_int min2_int max_two min_two max_three min_three max_four min_four   -- for this text's walks alone
set_option linter.unusedVariables false
set_option linter.unusedSimpArgs false
open Go.Proofs.YtfnjohklmpiboaaGreat.Sp
/-! ### weighbridgeref06_Parse_p: function 68 -/
def weighbridgeref06_Parse_p.f (a0 : ByteArray) : Option (Int × Int × ByteArray × Int) := if (a0.size : Int) < 8 then (some (0, 0, (⟨#[]⟩ : ByteArray), 2)) else ((weighbridgeref01_Get.f a0 0 2).bind fun bt159 => ((weighbridgeref01_Get.f a0 2 2).bind fun bt161 => ((weighbridgeref01_Get.f a0 4 2).bind fun bt163 => (if bt163.1 < 8 then (some (0, 0, (⟨#[]⟩ : ByteArray), 5)) else (if bt163.1 > (a0.size : Int) then (some (0, 0, (⟨#[]⟩ : ByteArray), 5)) else (if 8 ≤ bt163.1 then (if bt163.1 ≤ (a0.size : Int) then (some (bt159.1, bt161.1, a0.extract 8 (bt163.1 : Int).toNat, 0)) else (none)) else (none)))))))
set_option maxHeartbeats 8000000 in
set_option maxRecDepth 100000 in
theorem weighbridgeref06_Parse_p.calls (a0 : ByteArray) (r1 : Int) (r2 : Int) (r3 : ByteArray) (r4 : Int) (w : World) (h : weighbridgeref06_Parse_p.f a0 = some (r1, r2, r3, r4)) :
  Calls Tryz.prog 68 #[.string a0] w fun e w' => e = .returned (.tuple #[.int .i64 r1, .int .i64 r2, .string r3, .int .i64 r4]) ∧ Drawn0 w w' := by
 have H := h
 unfold weighbridgeref06_Parse_p.f at H
 clear h
 by_cases c2 : (a0.size : Int) < 8
 ·rw [if_pos c2] at H
  have c2b0 := decide_eq_true c2
  have c2b1 : decide (a0.size < 8) = true := decide_eq_true (by omega)
  clear c2
  simp only [Option.some.injEq, Prod.mk.injEq] at H
  obtain ⟨rfl, rfl, rfl, rfl⟩ := H
  go_enter Tryz.func68, Tryz.ntmps68
  go_wp2
  repeat (go_quiet (fail); try go_wp2)
  refine bodyPost_ret (results_list (rs := [.tmp 2, .tmp 3, .tmp 4, .tmp 5]) rfl (by simp) (.tmp (.tmp (.tmp (.tmp .nil))))) rfl ?_
  exact ⟨RS, DW⟩
 rw [if_neg c2] at H
 have c2b0 := decide_eq_false c2
 have c2b1 : decide (a0.size < 8) = false := decide_eq_false (by omega)
 clear c2
 replace H := OB H
 obtain ⟨⟨t159, t160⟩, A3, H⟩ := H
 (try set_option simprocs false in dsimp only at H)
 replace H := OB H
 obtain ⟨⟨t161, t162⟩, A4, H⟩ := H
 (try set_option simprocs false in dsimp only at H)
 replace H := OB H
 obtain ⟨⟨t163, t164⟩, A5, H⟩ := H
 (try set_option simprocs false in dsimp only at H)
 by_cases c6 : t163 < 8
 ·rw [if_pos c6] at H
  have c6b0 := decide_eq_true c6
  clear c6
  simp only [Option.some.injEq, Prod.mk.injEq] at H
  obtain ⟨rfl, rfl, rfl, rfl⟩ := H
  go_enter Tryz.func68, Tryz.ntmps68
  go_wp2_with (first | (go_at_call 29; (with_reducible refine (weighbridgeref01_Get.calls a0 0 2 t159 t160 _ A3.out).mono ?_); rintro e w' ⟨rfl, ⟨nd, rfl⟩⟩; (try exact DD)) | (go_at_call 29; (with_reducible refine (weighbridgeref01_Get.calls a0 2 2 t161 t162 _ A4.out).mono ?_); rintro e w' ⟨rfl, ⟨nd, rfl⟩⟩; (try exact DD)) | (go_at_call 29; (with_reducible refine (weighbridgeref01_Get.calls a0 4 2 t163 t164 _ A5.out).mono ?_); rintro e w' ⟨rfl, ⟨nd, rfl⟩⟩; (try exact DD)))
  repeat (go_quiet (first | (go_at_call 29; (with_reducible refine (weighbridgeref01_Get.calls a0 0 2 t159 t160 _ A3.out).mono ?_); rintro e w' ⟨rfl, ⟨nd, rfl⟩⟩; (try exact DD)) | (go_at_call 29; (with_reducible refine (weighbridgeref01_Get.calls a0 2 2 t161 t162 _ A4.out).mono ?_); rintro e w' ⟨rfl, ⟨nd, rfl⟩⟩; (try exact DD)) | (go_at_call 29; (with_reducible refine (weighbridgeref01_Get.calls a0 4 2 t163 t164 _ A5.out).mono ?_); rintro e w' ⟨rfl, ⟨nd, rfl⟩⟩; (try exact DD))); try go_wp2_with (first | (go_at_call 29; (with_reducible refine (weighbridgeref01_Get.calls a0 0 2 t159 t160 _ A3.out).mono ?_); rintro e w' ⟨rfl, ⟨nd, rfl⟩⟩; (try exact DD)) | (go_at_call 29; (with_reducible refine (weighbridgeref01_Get.calls a0 2 2 t161 t162 _ A4.out).mono ?_); rintro e w' ⟨rfl, ⟨nd, rfl⟩⟩; (try exact DD)) | (go_at_call 29; (with_reducible refine (weighbridgeref01_Get.calls a0 4 2 t163 t164 _ A5.out).mono ?_); rintro e w' ⟨rfl, ⟨nd, rfl⟩⟩; (try exact DD))))
  refine bodyPost_ret (results_list (rs := [.tmp 2, .tmp 3, .tmp 4, .tmp 5]) rfl (by simp) (.tmp (.tmp (.tmp (.tmp .nil))))) rfl ?_
  exact ⟨RS, DW⟩
 rw [if_neg c6] at H
 have c6b0 := decide_eq_false c6
 clear c6
 by_cases c7 : t163 > (a0.size : Int)
 ·rw [if_pos c7] at H
  have c7b0 : decide ((a0.size : Int) < t163) = true := decide_eq_true c7
  clear c7
  simp only [Option.some.injEq, Prod.mk.injEq] at H
  obtain ⟨rfl, rfl, rfl, rfl⟩ := H
  go_enter Tryz.func68, Tryz.ntmps68
  go_wp2_with (first | (go_at_call 29; (with_reducible refine (weighbridgeref01_Get.calls a0 0 2 t159 t160 _ A3.out).mono ?_); rintro e w' ⟨rfl, ⟨nd, rfl⟩⟩; (try exact DD)) | (go_at_call 29; (with_reducible refine (weighbridgeref01_Get.calls a0 2 2 t161 t162 _ A4.out).mono ?_); rintro e w' ⟨rfl, ⟨nd, rfl⟩⟩; (try exact DD)) | (go_at_call 29; (with_reducible refine (weighbridgeref01_Get.calls a0 4 2 t163 t164 _ A5.out).mono ?_); rintro e w' ⟨rfl, ⟨nd, rfl⟩⟩; (try exact DD)))
  repeat (go_quiet (first | (go_at_call 29; (with_reducible refine (weighbridgeref01_Get.calls a0 0 2 t159 t160 _ A3.out).mono ?_); rintro e w' ⟨rfl, ⟨nd, rfl⟩⟩; (try exact DD)) | (go_at_call 29; (with_reducible refine (weighbridgeref01_Get.calls a0 2 2 t161 t162 _ A4.out).mono ?_); rintro e w' ⟨rfl, ⟨nd, rfl⟩⟩; (try exact DD)) | (go_at_call 29; (with_reducible refine (weighbridgeref01_Get.calls a0 4 2 t163 t164 _ A5.out).mono ?_); rintro e w' ⟨rfl, ⟨nd, rfl⟩⟩; (try exact DD))); try go_wp2_with (first | (go_at_call 29; (with_reducible refine (weighbridgeref01_Get.calls a0 0 2 t159 t160 _ A3.out).mono ?_); rintro e w' ⟨rfl, ⟨nd, rfl⟩⟩; (try exact DD)) | (go_at_call 29; (with_reducible refine (weighbridgeref01_Get.calls a0 2 2 t161 t162 _ A4.out).mono ?_); rintro e w' ⟨rfl, ⟨nd, rfl⟩⟩; (try exact DD)) | (go_at_call 29; (with_reducible refine (weighbridgeref01_Get.calls a0 4 2 t163 t164 _ A5.out).mono ?_); rintro e w' ⟨rfl, ⟨nd, rfl⟩⟩; (try exact DD))))
  refine bodyPost_ret (results_list (rs := [.tmp 2, .tmp 3, .tmp 4, .tmp 5]) rfl (by simp) (.tmp (.tmp (.tmp (.tmp .nil))))) rfl ?_
  exact ⟨RS, DW⟩
 rw [if_neg c7] at H
 have c7b0 : decide ((a0.size : Int) < t163) = false := decide_eq_false c7
 clear c7
 by_cases c8 : 8 ≤ t163
 ·rw [if_pos c8] at H
  have c8b0 := eq_true c8
  have c8b1 := decide_eq_true c8
  clear c8
  by_cases c9 : t163 ≤ (a0.size : Int)
  ·rw [if_pos c9] at H
   have c9b0 := eq_true c9
   have c9b1 := decide_eq_true c9
   clear c9
   simp only [Option.some.injEq, Prod.mk.injEq] at H
   obtain ⟨rfl, rfl, rfl, rfl⟩ := H
   go_enter Tryz.func68, Tryz.ntmps68
   go_wp2_with (first | (go_at_call 29; (with_reducible refine (weighbridgeref01_Get.calls a0 0 2 t159 t160 _ A3.out).mono ?_); rintro e w' ⟨rfl, ⟨nd, rfl⟩⟩; (try exact DD)) | (go_at_call 29; (with_reducible refine (weighbridgeref01_Get.calls a0 2 2 t161 t162 _ A4.out).mono ?_); rintro e w' ⟨rfl, ⟨nd, rfl⟩⟩; (try exact DD)) | (go_at_call 29; (with_reducible refine (weighbridgeref01_Get.calls a0 4 2 t163 t164 _ A5.out).mono ?_); rintro e w' ⟨rfl, ⟨nd, rfl⟩⟩; (try exact DD)))
   repeat (go_quiet (first | (go_at_call 29; (with_reducible refine (weighbridgeref01_Get.calls a0 0 2 t159 t160 _ A3.out).mono ?_); rintro e w' ⟨rfl, ⟨nd, rfl⟩⟩; (try exact DD)) | (go_at_call 29; (with_reducible refine (weighbridgeref01_Get.calls a0 2 2 t161 t162 _ A4.out).mono ?_); rintro e w' ⟨rfl, ⟨nd, rfl⟩⟩; (try exact DD)) | (go_at_call 29; (with_reducible refine (weighbridgeref01_Get.calls a0 4 2 t163 t164 _ A5.out).mono ?_); rintro e w' ⟨rfl, ⟨nd, rfl⟩⟩; (try exact DD))); try go_wp2_with (first | (go_at_call 29; (with_reducible refine (weighbridgeref01_Get.calls a0 0 2 t159 t160 _ A3.out).mono ?_); rintro e w' ⟨rfl, ⟨nd, rfl⟩⟩; (try exact DD)) | (go_at_call 29; (with_reducible refine (weighbridgeref01_Get.calls a0 2 2 t161 t162 _ A4.out).mono ?_); rintro e w' ⟨rfl, ⟨nd, rfl⟩⟩; (try exact DD)) | (go_at_call 29; (with_reducible refine (weighbridgeref01_Get.calls a0 4 2 t163 t164 _ A5.out).mono ?_); rintro e w' ⟨rfl, ⟨nd, rfl⟩⟩; (try exact DD))))
   refine bodyPost_ret (results_list (rs := [.tmp 2, .tmp 3, .tmp 4, .tmp 5]) rfl (by simp) (.tmp (.tmp (.tmp (.tmp .nil))))) rfl ?_
   exact ⟨RS, DW⟩
  rw [if_neg c9] at H
  exact absurd H (by simp)
 rw [if_neg c8] at H
 exact absurd H (by simp)

def weighbridgeref06_Parse.f (a0 : ByteArray) : Option (Int × Int × ByteArray × Int) :=
 if a0.size ≤ big01 then some ((Sp.udpParse (bl a0)).1, (Sp.udpParse (bl a0)).2.1, lb (Sp.udpParse (bl a0)).2.2.1, (Sp.udpParse (bl a0)).2.2.2) else none
theorem weighbridgeref06_Parse_eq {a0 : ByteArray} (h : a0.size ≤ 281474976710656) : weighbridgeref06_Parse.f a0 = some ((Sp.udpParse (bl a0)).1, (Sp.udpParse (bl a0)).2.1, lb (Sp.udpParse (bl a0)).2.2.1, (Sp.udpParse (bl a0)).2.2.2) := by unfold weighbridgeref06_Parse.f; exact if_pos h
theorem weighbridgeref06_Parse_ev (a0 : ByteArray) (r : Int × Int × ByteArray × Int) (h : weighbridgeref06_Parse.f a0 = some r) : weighbridgeref06_Parse_p.f a0 = some r := by
 unfold weighbridgeref06_Parse.f at h
 split at h
 case isFalse => cases h
 case isTrue hs =>
  unfold big01 at hs
  rw [← h]
  unfold weighbridgeref06_Parse_p.f Sp.udpParse
  rw [bl_length]
  by_cases h8 : (a0.size : Int) < 8
  ·rw [if_pos h8, if_pos h8]; rfl
  rw [if_neg h8, if_neg h8, weighbridgeref01_Get_eq _ _ _ hs, weighbridgeref01_Get_eq _ _ _ hs, weighbridgeref01_Get_eq _ _ _ hs, Option.bind_some, Option.bind_some, Option.bind_some,
   show Sp.get (bl a0) 0 2 = (Sp.beNum (((bl a0).drop 0).take 2), true) from Sp.get2 (bl a0) 0 (by rw [bl_length]; omega), show Sp.get (bl a0) 2 2 = (Sp.beNum (((bl a0).drop 2).take 2), true) from Sp.get2 (bl a0) 2 (by rw [bl_length]; omega),
   show Sp.get (bl a0) 4 2 = (Sp.udpLen (bl a0), true) from Sp.get2 (bl a0) 4 (by rw [bl_length]; omega)]
  by_cases h1 : Sp.udpLen (bl a0) < 8
  ·rw [if_pos h1, if_pos (Or.inl h1)]; rfl
  rw [if_neg h1]
  by_cases h2 : Sp.udpLen (bl a0) > (a0.size : Int)
  ·rw [if_pos h2, if_pos (Or.inr h2)]; rfl
  rw [if_neg h2, if_pos (show 8 ≤ Sp.udpLen (bl a0) by omega), if_pos (show Sp.udpLen (bl a0) ≤ (a0.size : Int) by omega), if_neg (show ¬ (Sp.udpLen (bl a0) < 8 ∨ Sp.udpLen (bl a0) > (a0.size : Int)) by omega), List.drop_zero, ← Sp.lb_bl (a0.extract _ _), Sp.bl_extract]
theorem weighbridgeref06_Parse.calls (a0 : ByteArray) (r1 : Int) (r2 : Int) (r3 : ByteArray) (r4 : Int) (w : World) (h : weighbridgeref06_Parse.f a0 = some (r1, r2, r3, r4)) :
  Calls Tryz.prog 68 #[.string a0] w fun e w' => e = .returned (.tuple #[.int .i64 r1, .int .i64 r2, .string r3, .int .i64 r4]) ∧ Drawn0 w w' := by
 have hk := weighbridgeref06_Parse_ev a0 _ h
 exact weighbridgeref06_Parse_p.calls a0 r1 r2 r3 r4 w hk

/-! ### weighbridgeref06_Size_p: function 101 -/
def weighbridgeref06_Size_p.f (a0 : ByteArray) : Option (Int × Bool) := (weighbridgeref06_Parse.f a0).bind fun bt165 => (if bt165.2.2.2 = 0 then (some (wrap64 (8 + (bt165.2.2.1.size : Int)), true)) else (some (0, false)))
set_option maxHeartbeats 8000000 in
set_option maxRecDepth 100000 in
theorem weighbridgeref06_Size_p.calls (a0 : ByteArray) (r1 : Int) (r2 : Bool) (w : World) (h : weighbridgeref06_Size_p.f a0 = some (r1, r2)) :
  Calls Tryz.prog 101 #[.string a0] w fun e w' => e = .returned (.tuple #[.int .i64 r1, .bool r2]) ∧ Drawn0 w w' := by
 have H := h
 unfold weighbridgeref06_Size_p.f at H
 clear h
 replace H := OB H
 obtain ⟨⟨t165, t166, t167, t168⟩, A2, H⟩ := H
 (try set_option simprocs false in dsimp only at H)
 go_enter Tryz.func101, Tryz.ntmps101
 go_upto_if 16 with (first | ((with_reducible refine gkx 68 rfl ?_); refine gL 10 Tryz.func68 rfl (weighbridgeref06_Parse.calls a0 t165 t166 t167 t168 _ A2.out) ?_; rintro w' ⟨nd, rfl⟩))
 by_cases c3 : t168 = 0
 ·rw [if_pos c3] at H
  have c3b0 := BT c3
  have c3b1 := NF c3
  clear c3
  simp only [Option.some.injEq, Prod.mk.injEq] at H
  obtain ⟨rfl, rfl⟩ := H
  go_wp2_with (fail)
  go_ret2
  exact ⟨RS, DW⟩
 rw [if_neg c3] at H
 have c3b0 := BF c3
 have c3b1 := NT c3
 simp only [Option.some.injEq, Prod.mk.injEq] at H
 obtain ⟨rfl, rfl⟩ := H
 go_wp2_with (fail)
 go_ret2
 exact ⟨RS, DW⟩

def weighbridgeref06_Size.f (a0 : ByteArray) : Option (Int × Bool) := if a0.size ≤ big01 then some (Sp.udpSize (bl a0)) else none
theorem weighbridgeref06_Size_eq {a0 : ByteArray} (h : a0.size ≤ 281474976710656) : weighbridgeref06_Size.f a0 = some (Sp.udpSize (bl a0)) := by unfold weighbridgeref06_Size.f; exact if_pos h
theorem weighbridgeref06_Size_ev (a0 : ByteArray) (r : Int × Bool) (h : weighbridgeref06_Size.f a0 = some r) : weighbridgeref06_Size_p.f a0 = some r := by
 unfold weighbridgeref06_Size.f at h
 split at h
 case isFalse => cases h
 case isTrue hs =>
  unfold big01 at hs
  rw [← h]
  unfold weighbridgeref06_Size_p.f
  rw [weighbridgeref06_Parse_eq hs, Option.bind_some]
  unfold Sp.udpParse Sp.udpSize
  rw [bl_length]
  by_cases h8 : (a0.size : Int) < 8
  ·rw [if_pos h8, if_pos h8]; rfl
  rw [if_neg h8, if_neg h8]
  by_cases h2 : Sp.udpLen (bl a0) < 8 ∨ Sp.udpLen (bl a0) > (a0.size : Int)
  ·rw [if_pos h2, if_pos h2]; rfl
  rw [if_neg h2, if_neg h2, if_pos rfl]
  have hl : (((bl a0).take (Sp.udpLen (bl a0)).toNat).drop 8).length = (Sp.udpLen (bl a0)).toNat - 8 := by rw [List.length_drop, List.length_take, bl_length]; omega
  show some (wrap64 (8 + ((lb (((bl a0).take (Sp.udpLen (bl a0)).toNat).drop 8)).size : Int)), true) = _
  rw [lb_size, hl, r6_wrap (by omega) (by omega)]
  congr 2
  omega

theorem weighbridgeref06_Size.calls (a0 : ByteArray) (r1 : Int) (r2 : Bool) (w : World) (h : weighbridgeref06_Size.f a0 = some (r1, r2)) :
  Calls Tryz.prog 101 #[.string a0] w fun e w' => e = .returned (.tuple #[.int .i64 r1, .bool r2]) ∧ Drawn0 w w' := by
 have hk := weighbridgeref06_Size_ev a0 _ h
 exact weighbridgeref06_Size_p.calls a0 r1 r2 w hk

/-! ### weighbridgeref06_Build_p: function 37 -/
def weighbridgeref06_Build_p.j0 : Nat → Int → Int → ByteArray → Bool → Option (ByteArray × Int)
 | 0, _, _, _, _ => none
 | k + 1, x0, x1, x2, x21 => if x21 = true then (some ((⟨#[]⟩ : ByteArray), 1)) else (if (wrap64 (8 + (x2.size : Int))) > 1500 then (some ((⟨#[]⟩ : ByteArray), 18)) else ((weighbridgeref04_Num.f 2 x0).bind fun t188 => ((weighbridgeref04_Num.f 2 x1).bind fun t189 => (if t188.size + t189.size ≤ 9223372036854775807 then ((weighbridgeref04_Num.f 2 (wrap64 (8 + (x2.size : Int)))).bind fun t190 => (if (t188 ++ t189).size + t190.size ≤ 9223372036854775807 then (if ((t188 ++ t189) ++ t190).size + 2 ≤ 9223372036854775807 then (if (((t188 ++ t189) ++ t190) ++ (⟨#[0, 0]⟩ : ByteArray)).size + x2.size ≤ 9223372036854775807 then (some ((((t188 ++ t189) ++ t190) ++ (⟨#[0, 0]⟩ : ByteArray)) ++ x2, 0)) else (none)) else (none)) else (none))) else (none)))))
def weighbridgeref06_Build_p.f (k : Nat) (a0 : Int) (a1 : Int) (a2 : ByteArray) : Option (ByteArray × Int) := if a0 < 0 then (weighbridgeref06_Build_p.j0 k a0 a1 a2 true) else (if a0 > 65535 then (weighbridgeref06_Build_p.j0 k a0 a1 a2 true) else (if a1 < 0 then (weighbridgeref06_Build_p.j0 k a0 a1 a2 true) else (weighbridgeref06_Build_p.j0 k a0 a1 a2 (decide (a1 > 65535)))))
theorem weighbridgeref06_Build_p.mono_l : ∀ k, (∀ y0 y1 y2 y3, LeO (weighbridgeref06_Build_p.j0 k y0 y1 y2 y3) (weighbridgeref06_Build_p.j0 (k + 1) y0 y1 y2 y3))
 | 0 => fun _ _ _ _ r h => by simp [weighbridgeref06_Build_p.j0] at h
 | k + 1 => by
  have ih0 := weighbridgeref06_Build_p.mono_l k
  ·intro y0 y1 y2 y3
   unfold weighbridgeref06_Build_p.j0
   repeat' first
   | (with_reducible exact ih0 _ _ _ _)
   | (with_reducible exact LeO.refl _)
   | (with_reducible exact LeO.none _)
   | (with_reducible refine LeO.ite ?_ ?_)
   | (with_reducible refine LeO.bind ?_ (fun _ => ?_))
   | exact ih0 _ _ _ _
   | exact LeO.none _
   | refine LeO.ite ?_ ?_
   | refine LeO.bind ?_ (fun _ => ?_)
theorem weighbridgeref06_Build_p.mono : ∀ a0 a1 a2 k, LeO (weighbridgeref06_Build_p.f k a0 a1 a2) (weighbridgeref06_Build_p.f (k + 1) a0 a1 a2) := by
 intro a0 a1 a2 k
 have ih0 := weighbridgeref06_Build_p.mono_l k
 unfold weighbridgeref06_Build_p.f
 repeat' first
   | (with_reducible exact ih0 _ _ _ _)
   | (with_reducible exact LeO.refl _)
   | (with_reducible exact LeO.none _)
   | (with_reducible refine LeO.ite ?_ ?_)
   | (with_reducible refine LeO.bind ?_ (fun _ => ?_))
   | exact ih0 _ _ _ _
   | exact LeO.none _
   | refine LeO.ite ?_ ?_
   | refine LeO.bind ?_ (fun _ => ?_)
set_option maxHeartbeats 8000000 in
set_option maxRecDepth 100000 in
theorem weighbridgeref06_Build_p.calls (k : Nat) (a0 : Int) (a1 : Int) (a2 : ByteArray) (r1 : ByteArray) (r2 : Int) (w : World) (h : weighbridgeref06_Build_p.f k a0 a1 a2 = some (r1, r2)) :
  Calls Tryz.prog 37 #[.int .i64 a0, .int .i64 a1, .string a2] w fun e w' => e = .returned (.tuple #[.string r1, .int .i64 r2]) ∧ Below w.heap.size w w' := by
 have HB := AA (Below.refl w.heap.size w)
 have H := h
 unfold weighbridgeref06_Build_p.f at H
 clear h
 have HC4 := AA H
 clear H
 go_enter Tryz.func37, Tryz.ntmps37
 go_upto_region 1 with (fail)
 go_cut [21] (fun v21 wc => ∃ (kq : Nat) (x21_3 : Bool), v21 = .bool x21_3 ∧ Aside0 (weighbridgeref06_Build_p.j0 kq a0 a1 a2 x21_3 = some (r1, r2)) ∧ Aside0 (kq ≤ k) ∧ Aside0 (Below w.heap.size w wc))
 case first =>
  have H := HC4.out
  clear HC4
  by_cases c5 : a0 < 0
  ·rw [if_pos c5] at H
   have c5b0 := decide_eq_true c5
   clear c5
   (first | rw [c5b0] | (simp only [i64_w, i32_w]; rw [c5b0]) | skip)
   have H' := AA H
   clear H
   go_wp2
   go_meet
   case rel => exact ⟨_, (true), QS, H', LR, ⟨BW HB⟩⟩
  rw [if_neg c5] at H
  have c5b0 := decide_eq_false c5
  clear c5
  (first | rw [c5b0] | (simp only [i64_w, i32_w]; rw [c5b0]) | skip)
  by_cases c6 : a0 > 65535
  ·rw [if_pos c6] at H
   have c6b0 : decide (65535 < a0) = true := decide_eq_true c6
   clear c6
   have H' := AA H
   clear H
   go_wp2
   go_meet
   case rel => exact ⟨_, (true), QS, H', LR, ⟨BW HB⟩⟩
  rw [if_neg c6] at H
  have c6b0 : decide (65535 < a0) = false := decide_eq_false c6
  clear c6
  by_cases c7 : a1 < 0
  ·rw [if_pos c7] at H
   have c7b0 := decide_eq_true c7
   clear c7
   have H' := AA H
   clear H
   go_wp2
   go_meet
   case rel => exact ⟨_, (true), QS, H', LR, ⟨BW HB⟩⟩
  rw [if_neg c7] at H
  have c7b0 := decide_eq_false c7
  clear c7
  have H' := AA H
  clear H
  go_wp2
  go_meet
  case rel => exact ⟨_, (decide (a1 > 65535)), QS, H', LR, ⟨BW HB⟩⟩
 case rest =>
  clear HC4
  try clear p2; try clear c3; try clear c5; try clear c5b0; try clear c6; try clear c6b0; try clear c7; try clear c7b0
  obtain ⟨kq, x21_3, rfl, HA, HJ3, HB⟩ := hcut
  cases kq with
  | zero => exact absurd HA.out (by simp [weighbridgeref06_Build_p.j0])
  | succ kj3 =>
   have H := HA.out
   clear HA
   simp only [weighbridgeref06_Build_p.j0] at H
   by_cases c8 : x21_3 = true
   ·subst c8
    first | rw [if_pos rfl] at H | rw [if_pos trivial] at H
    simp only [Option.some.injEq, Prod.mk.injEq] at H
    obtain ⟨rfl, rfl⟩ := H
    go_wp2
    go_ret2
    exact ⟨RT, BW HB⟩
   replace c8 := Bool.eq_false_iff.mpr c8
   subst c8
   replace H := IFN H
   by_cases c9 : (wrap64 (8 + (a2.size : Int))) > 1500
   ·rw [if_pos c9] at H
    have c9b0 : decide (1500 < (wrap64 (8 + (a2.size : Int)))) = true := decide_eq_true c9
    clear c9
    simp only [Option.some.injEq, Prod.mk.injEq] at H
    obtain ⟨rfl, rfl⟩ := H
    go_wp2
    go_ret2
    exact ⟨RT, BW HB⟩
   rw [if_neg c9] at H
   have c9b0 : decide (1500 < (wrap64 (8 + (a2.size : Int)))) = false := decide_eq_false c9
   clear c9
   replace H := OB H
   obtain ⟨t188, A10, H⟩ := H
   (try set_option simprocs false in dsimp only at H)
   replace H := OB H
   obtain ⟨t189, A11, H⟩ := H
   (try set_option simprocs false in dsimp only at H)
   replace H := IT H
   obtain ⟨c12, H⟩ := H
   have c12b0 := eq_true c12
   have c12b1 := decide_eq_true c12
   try have c12b2 := eq_false (Nat.not_lt.2 c12)
   replace H := OB H
   obtain ⟨t190, A13, H⟩ := H
   (try set_option simprocs false in dsimp only at H)
   replace H := IT H
   obtain ⟨c14, H⟩ := H
   have c14b0 := eq_true c14
   have c14b1 := decide_eq_true c14
   try have c14b2 := eq_false (Nat.not_lt.2 c14)
   (try (have c14r := c14; simp only [ByteArray.size_append, ByteArray.size_extract, Nat.sub_zero, Nat.min_self] at c14r; have c14rt := eq_true c14r; have c14ru := eq_false (Nat.not_lt.mpr c14r); clear c14r))
   (try (have c14s := c14; simp [c12b0] at c14s; have c14t := eq_true c14s; have c14u := eq_false (Nat.not_lt.mpr c14s); clear c14s))
   by_cases c15 : ((t188 ++ t189) ++ t190).size + 2 ≤ 9223372036854775807
   ·rw [if_pos c15] at H
    have c15b0 := eq_true c15
    have c15b1 := decide_eq_true c15
    try have c15b2 := eq_false (Nat.not_lt.2 c15)
    (try (have c15r := c15; simp only [ByteArray.size_append, ByteArray.size_extract, Nat.sub_zero, Nat.min_self] at c15r; have c15rt := eq_true c15r; have c15ru := eq_false (Nat.not_lt.mpr c15r); clear c15r))
    (try (have c15s := c15; simp [c12b0, c14b0] at c15s; have c15t := eq_true c15s; have c15u := eq_false (Nat.not_lt.mpr c15s); clear c15s))
    by_cases c16 : (((t188 ++ t189) ++ t190) ++ (⟨#[0, 0]⟩ : ByteArray)).size + a2.size ≤ 9223372036854775807
    ·rw [if_pos c16] at H
     have c16b0 := eq_true c16
     have c16b1 := decide_eq_true c16
     try have c16b2 := eq_false (Nat.not_lt.2 c16)
     (try (have c16r := c16; simp only [ByteArray.size_append, ByteArray.size_extract, Nat.sub_zero, Nat.min_self] at c16r; (try rw [show (⟨#[0, 0]⟩ : ByteArray).size = 2 from rfl] at c16r); have c16rt := eq_true c16r; have c16ru := eq_false (Nat.not_lt.mpr c16r); clear c16r))
     (try (have c16s := c16; simp [c12b0, c14b0, c15b0] at c16s; have c16t := eq_true c16s; have c16u := eq_false (Nat.not_lt.mpr c16s); clear c16s))
     simp only [Option.some.injEq, Prod.mk.injEq] at H
     obtain ⟨rfl, rfl⟩ := H
     go_wp2_with (first | ((with_reducible refine gkx 34 rfl ?_); refine gL 27 Tryz.func34 rfl (weighbridgeref04_Num.calls 2 a0 t188 _ A10.out) ?_; rintro w17 hb; (try clear A10); replace HB := BS HB hb; (try clear hb)) | ((with_reducible refine gkx 34 rfl ?_); refine gL 29 Tryz.func34 rfl (weighbridgeref04_Num.calls 2 a1 t189 _ A11.out) ?_; rintro w18 hb; (try clear A11); replace HB := BS HB hb; (try clear hb)) | ((with_reducible refine gkx 34 rfl ?_); refine gL 34 Tryz.func34 rfl (weighbridgeref04_Num.calls 2 (wrap64 (8 + (a2.size : Int))) t190 _ A13.out) ?_; rintro w19 hb; (try clear A13); replace HB := BS HB hb; (try clear hb)))
     go_ret2
     exact ⟨RT, BW HB⟩
    rw [if_neg c16] at H
    exact absurd H (by simp)
   rw [if_neg c15] at H
   exact absurd H (by simp)

theorem r6_00 : (⟨#[0, 0]⟩ : ByteArray) = lb [0, 0] := rfl
theorem r6_Build_j (a b : Int) (s : ByteArray) (bad : Bool) (hs : s.size ≤ 281474976710656) (hb : bad = false → Sp.fits 2 a = true ∧ Sp.fits 2 b = true) :
  weighbridgeref06_Build_p.j0 1 a b s bad = some (if bad = true then (lb [], 1) else (lb (Sp.udpBuild a b (bl s)).1, (Sp.udpBuild a b (bl s)).2)) := by
 simp only [weighbridgeref06_Build_p.j0]
 by_cases h : bad = true
 ·rw [if_pos h, if_pos h]; rfl
 have hf := hb (Sp.bool_no h)
 rw [if_neg h, if_neg h, r6_wrap (by omega) (by omega)]
 unfold Sp.udpBuild
 rw [if_pos hf, bl_length]
 by_cases hl : 8 + (s.size : Int) > 1500
 ·rw [if_pos hl, if_pos hl]; rfl
 have l1 := Sp.beBytes_length 2 a
 have l2 := Sp.beBytes_length 2 b
 have l3 := Sp.beBytes_length 2 (8 + (s.size : Int))
 rw [if_neg hl, if_neg hl, weighbridgeref04_Num_yes hf.1, weighbridgeref04_Num_yes hf.2, weighbridgeref04_Num_yes (Sp.fits2.2 (by omega)), Option.bind_some, Option.bind_some, Option.bind_some, show (2 : Int).toNat = 2 from rfl,
  if_pos (by rw [lb_size, lb_size]; omega), Sp.lb_append, if_pos (by rw [lb_size, lb_size, List.length_append]; omega), Sp.lb_append, if_pos (by rw [lb_size, List.length_append, List.length_append]; omega), r6_00, Sp.lb_append,
  if_pos (by rw [lb_size, List.length_append, List.length_append, List.length_append]; simp; omega)]
 have e : ∀ l : List UInt8, lb l ++ s = lb (l ++ bl s) := fun l => by rw [← Sp.lb_append, lb_bl]
 rw [e]
def weighbridgeref06_Build.f (a0 a1 : Int) (a2 : ByteArray) : Option (ByteArray × Int) := if a2.size ≤ big01 then some (lb (Sp.udpBuild a0 a1 (bl a2)).1, (Sp.udpBuild a0 a1 (bl a2)).2) else none
theorem weighbridgeref06_Build_eq {a0 a1 : Int} {a2 : ByteArray} (h : a2.size ≤ 281474976710656) : weighbridgeref06_Build.f a0 a1 a2 = some (lb (Sp.udpBuild a0 a1 (bl a2)).1, (Sp.udpBuild a0 a1 (bl a2)).2) := by unfold weighbridgeref06_Build.f; exact if_pos h
theorem r6_no {a b : Int} {l : List UInt8} (h : ¬ (Sp.fits 2 a = true ∧ Sp.fits 2 b = true)) : Sp.udpBuild a b l = ([], 1) := by unfold Sp.udpBuild; rw [if_neg h]
theorem weighbridgeref06_Build_ev (a0 a1 : Int) (a2 : ByteArray) (r : ByteArray × Int) (h : weighbridgeref06_Build.f a0 a1 a2 = some r) : ∃ k, weighbridgeref06_Build_p.f k a0 a1 a2 = some r := by
 unfold weighbridgeref06_Build.f at h
 split at h
 case isFalse => cases h
 case isTrue hs =>
  refine ⟨1, ?_⟩
  rw [← h]
  unfold weighbridgeref06_Build_p.f
  by_cases h1 : a0 < 0
  ·rw [if_pos h1, r6_Build_j _ _ _ _ hs (by simp), if_pos rfl, r6_no (by rw [Sp.fits2, Sp.fits2]; omega)]
  by_cases h2 : a0 > 65535
  ·rw [if_neg h1, if_pos h2, r6_Build_j _ _ _ _ hs (by simp), if_pos rfl, r6_no (by rw [Sp.fits2, Sp.fits2]; omega)]
  by_cases h3 : a1 < 0
  ·rw [if_neg h1, if_neg h2, if_pos h3, r6_Build_j _ _ _ _ hs (by simp), if_pos rfl, r6_no (by rw [Sp.fits2, Sp.fits2]; omega)]
  rw [if_neg h1, if_neg h2, if_neg h3, r6_Build_j _ _ _ _ hs (by intro h; have := of_decide_eq_false h; rw [Sp.fits2, Sp.fits2]; omega)]
  by_cases h4 : a1 > 65535
  ·rw [if_pos (decide_eq_true h4), r6_no (by rw [Sp.fits2, Sp.fits2]; omega)]
  rw [if_neg (by simpa using h4)]
theorem weighbridgeref06_Build.calls (a0 : Int) (a1 : Int) (a2 : ByteArray) (r1 : ByteArray) (r2 : Int) (w : World) (h : weighbridgeref06_Build.f a0 a1 a2 = some (r1, r2)) :
  Calls Tryz.prog 37 #[.int .i64 a0, .int .i64 a1, .string a2] w fun e w' => e = .returned (.tuple #[.string r1, .int .i64 r2]) ∧ Below w.heap.size w w' := by
 obtain ⟨k, hk⟩ := weighbridgeref06_Build_ev a0 a1 a2 _ h
 exact weighbridgeref06_Build_p.calls k a0 a1 a2 r1 r2 w hk

end Go.Proofs.YtfnjohklmpiboaaGreat.Pr
