-- Written by a program of the session (wip/tools) out of the translation, over the kit's print; with pieces of the session's own.
import Derived.Test.YtfnjohklmpiboaaGreatPr0
import Derived.Test.YtfnjohklmpiboaaGreatPr10
namespace Go.Proofs.YtfnjohklmpiboaaGreat.Pr
open Go.RowKit Go.Proofs.YtfnjohklmpiboaaGreatW.PrintWords Go.Proofs.YtfnjohklmpiboaaGreatW.PrintLast Go.Proofs.YtfnjohklmpiboaaGreatW.PrintMore
attribute [local go_sem] max2_int min2_int max_two min_two max_three min_three max_four min_four   -- for this text's walks alone
set_option linter.unusedVariables false
set_option linter.unusedSimpArgs false
open Go.Proofs.YtfnjohklmpiboaaGreat.Sp
/-! ### udp_Size_p: function 100 -/
def udp_Size_p.f (a0 : ByteArray) : Option (Int × Bool) := (octet_Get.f a0 4 2).bind fun bt239 => (if (a0.size : Int) < 8 then (some (0, false)) else (if bt239.1 < 8 then (some (0, false)) else (if bt239.1 > (a0.size : Int) then (some (0, false)) else (some (bt239.1, true)))))
set_option maxHeartbeats 8000000 in
set_option maxRecDepth 100000 in
theorem udp_Size_p.calls (a0 : ByteArray) (r1 : Int) (r2 : Bool) (w : World) (h : udp_Size_p.f a0 = some (r1, r2)) :
  Calls Tryz.prog 100 #[.string a0] w fun e w' => e = .returned (.tuple #[.int .i64 r1, .bool r2]) ∧ Below w.heap.size w w' := by
 have HB := AA (Below.refl w.heap.size w)
 have H := h
 unfold udp_Size_p.f at H
 clear h
 replace H := OB H
 obtain ⟨⟨t239, t240⟩, A2, H⟩ := H
 (try set_option simprocs false in dsimp only at H)
 go_enter Tryz.func100, Tryz.ntmps100
 go_upto_region 2 with (first | ((with_reducible refine gkx 41 rfl ?_); refine gL 8 Tryz.func41 rfl (octet_Get.calls a0 4 2 t239 t240 _ A2.out) ?_; rintro w4 hb; (try clear A2); replace HB := BS HB hb; (try clear hb)))
 by_cases c3 : (a0.size : Int) < 8
 ·rw [if_pos c3] at H
  have c3b0 := decide_eq_true c3
  have c3b1 : decide (a0.size < 8) = true := decide_eq_true (by omega)
  clear c3
  simp only [Option.some.injEq, Prod.mk.injEq] at H
  obtain ⟨rfl, rfl⟩ := H
  go_wp2_with (fail)
  go_ret2
  exact ⟨RT, BW HB⟩
 rw [if_neg c3] at H
 have c3b0 := decide_eq_false c3
 have c3b1 : decide (a0.size < 8) = false := decide_eq_false (by omega)
 clear c3
 by_cases c5 : t239 < 8
 ·rw [if_pos c5] at H
  have c5b0 := decide_eq_true c5
  clear c5
  simp only [Option.some.injEq, Prod.mk.injEq] at H
  obtain ⟨rfl, rfl⟩ := H
  go_wp2_with (fail)
  go_ret2
  exact ⟨RT, BW HB⟩
 rw [if_neg c5] at H
 have c5b0 := decide_eq_false c5
 clear c5
 by_cases c7 : t239 > (a0.size : Int)
 ·rw [if_pos c7] at H
  have c7b0 : decide ((a0.size : Int) < t239) = true := decide_eq_true c7
  clear c7
  simp only [Option.some.injEq, Prod.mk.injEq] at H
  obtain ⟨rfl, rfl⟩ := H
  go_wp2_with (fail)
  go_ret2
  exact ⟨RT, BW HB⟩
 rw [if_neg c7] at H
 have c7b0 : decide ((a0.size : Int) < t239) = false := decide_eq_false c7
 clear c7
 simp only [Option.some.injEq, Prod.mk.injEq] at H
 obtain ⟨rfl, rfl⟩ := H
 go_wp2_with (fail)
 go_ret2
 exact ⟨RT, BW HB⟩

theorem get_42 (s : ByteArray) (h : ¬ (s.size : Int) < 8) : Sp.get (bl s) 4 2 = (Sp.udpLen (bl s), true) := Sp.get2 (bl s) 4 (by rw [bl_length]; omega)
def udp_Size.f (a0 : ByteArray) : Option (Int × Bool) := if a0.size ≤ big then some (Sp.udpSize (bl a0)) else none
theorem udp_Size_eq {a0 : ByteArray} (h : a0.size ≤ 281474976710656) : udp_Size.f a0 = some (Sp.udpSize (bl a0)) := by unfold udp_Size.f; exact if_pos h
theorem udp_Size_ev (a0 : ByteArray) (r : Int × Bool) (h : udp_Size.f a0 = some r) : udp_Size_p.f a0 = some r := by
 unfold udp_Size.f at h
 split at h
 case isFalse => cases h
 case isTrue hs =>
  unfold big at hs
  rw [← h]
  unfold udp_Size_p.f Sp.udpSize
  rw [octet_Get_eq _ _ _ hs, Option.bind_some, bl_length]
  by_cases h8 : (a0.size : Int) < 8
  ·rw [if_pos h8, if_pos h8]
  rw [if_neg h8, if_neg h8, get_42 a0 h8]
  by_cases h1 : Sp.udpLen (bl a0) < 8
  ·rw [if_pos h1, if_pos (Or.inl h1)]
  rw [if_neg h1]
  by_cases h2 : Sp.udpLen (bl a0) > (a0.size : Int)
  ·rw [if_pos h2, if_pos (Or.inr h2)]
  rw [if_neg h2, if_neg (by omega)]
theorem udp_Size.calls (a0 : ByteArray) (r1 : Int) (r2 : Bool) (w : World) (h : udp_Size.f a0 = some (r1, r2)) :
  Calls Tryz.prog 100 #[.string a0] w fun e w' => e = .returned (.tuple #[.int .i64 r1, .bool r2]) ∧ Below w.heap.size w w' := by
 have hk := udp_Size_ev a0 _ h
 exact udp_Size_p.calls a0 r1 r2 w hk

/-! ### udp_Parse_p: function 92 -/
def udp_Parse_p.f (a0 : ByteArray) : Option (Int × Int × ByteArray × Int) := if (a0.size : Int) < 8 then (some (0, 0, (⟨#[]⟩ : ByteArray), 2)) else ((udp_Size.f a0).bind fun bt286 => (if bt286.2 = true then ((octet_Get.f a0 0 2).bind fun bt288 => ((octet_Get.f a0 2 2).bind fun bt290 => (if 8 ≤ bt286.1 then (if bt286.1 ≤ (a0.size : Int) then (some (bt288.1, bt290.1, a0.extract 8 (bt286.1 : Int).toNat, 0)) else (none)) else (none)))) else (some (0, 0, (⟨#[]⟩ : ByteArray), 5))))
set_option maxHeartbeats 8000000 in
set_option maxRecDepth 100000 in
theorem udp_Parse_p.calls (a0 : ByteArray) (r1 : Int) (r2 : Int) (r3 : ByteArray) (r4 : Int) (w : World) (h : udp_Parse_p.f a0 = some (r1, r2, r3, r4)) :
  Calls Tryz.prog 92 #[.string a0] w fun e w' => e = .returned (.tuple #[.int .i64 r1, .int .i64 r2, .string r3, .int .i64 r4]) ∧ Below w.heap.size w w' := by
 have HB := AA (Below.refl w.heap.size w)
 have H := h
 unfold udp_Parse_p.f at H
 clear h
 by_cases c2 : (a0.size : Int) < 8
 ·rw [if_pos c2] at H
  have c2b0 := decide_eq_true c2
  have c2b1 : decide (a0.size < 8) = true := decide_eq_true (by omega)
  clear c2
  simp only [Option.some.injEq, Prod.mk.injEq] at H
  obtain ⟨rfl, rfl, rfl, rfl⟩ := H
  go_enter Tryz.func92, Tryz.ntmps92
  go_wp2
  repeat (go_quiet (fail); try go_wp2)
  refine bodyPost_ret (results_list (rs := [.tmp 2, .tmp 3, .tmp 4, .tmp 5]) rfl (by simp) (.tmp (.tmp (.tmp (.tmp .nil))))) rfl ?_
  exact ⟨RT, BW HB⟩
 rw [if_neg c2] at H
 have c2b0 := decide_eq_false c2
 have c2b1 : decide (a0.size < 8) = false := decide_eq_false (by omega)
 clear c2
 replace H := OB H
 obtain ⟨⟨t286, t287⟩, A3, H⟩ := H
 (try set_option simprocs false in dsimp only at H)
 by_cases c4 : t287 = true
 rotate_left
 ·replace c4 := Bool.eq_false_iff.mpr c4
  subst c4
  replace H := IFN H
  simp only [Option.some.injEq, Prod.mk.injEq] at H
  obtain ⟨rfl, rfl, rfl, rfl⟩ := H
  go_enter Tryz.func92, Tryz.ntmps92
  go_wp2_with (first | (go_at_call 100; (with_reducible refine (udp_Size.calls a0 t286 false _ A3.out).mono ?_); rintro e w12 ⟨rfl, hb⟩; (try clear A3); replace HB := BS HB hb; (try clear hb)))
  repeat (go_quiet (first | (go_at_call 100; (with_reducible refine (udp_Size.calls a0 t286 false _ A3.out).mono ?_); rintro e w12 ⟨rfl, hb⟩; (try clear A3); replace HB := BS HB hb; (try clear hb))); try go_wp2_with (first | (go_at_call 100; (with_reducible refine (udp_Size.calls a0 t286 false _ A3.out).mono ?_); rintro e w12 ⟨rfl, hb⟩; (try clear A3); replace HB := BS HB hb; (try clear hb))))
  refine bodyPost_ret (results_list (rs := [.tmp 2, .tmp 3, .tmp 4, .tmp 5]) rfl (by simp) (.tmp (.tmp (.tmp (.tmp .nil))))) rfl ?_
  exact ⟨RT, BW HB⟩
 subst c4
 first | rw [if_pos rfl] at H | rw [if_pos trivial] at H
 replace H := OB H
 obtain ⟨⟨t288, t289⟩, A5, H⟩ := H
 (try set_option simprocs false in dsimp only at H)
 replace H := OB H
 obtain ⟨⟨t290, t291⟩, A6, H⟩ := H
 (try set_option simprocs false in dsimp only at H)
 replace H := IU H
 obtain ⟨c7b0, c7b1, H⟩ := H
 by_cases c8 : t286 ≤ (a0.size : Int)
 ·rw [if_pos c8] at H
  have c8b0 := eq_true c8
  have c8b1 := decide_eq_true c8
  clear c8
  simp only [Option.some.injEq, Prod.mk.injEq] at H
  obtain ⟨rfl, rfl, rfl, rfl⟩ := H
  go_enter Tryz.func92, Tryz.ntmps92
  go_wp2_with (first | (go_at_call 100; (with_reducible refine (udp_Size.calls a0 t286 true _ A3.out).mono ?_); rintro e w9 ⟨rfl, hb⟩; (try clear A3); replace HB := BS HB hb; (try clear hb)) | (go_at_call 41; (with_reducible refine (octet_Get.calls a0 0 2 t288 t289 _ A5.out).mono ?_); rintro e w10 ⟨rfl, hb⟩; (try clear A5); replace HB := BS HB hb; (try clear hb)) | (go_at_call 41; (with_reducible refine (octet_Get.calls a0 2 2 t290 t291 _ A6.out).mono ?_); rintro e w11 ⟨rfl, hb⟩; (try clear A6); replace HB := BS HB hb; (try clear hb)))
  repeat (go_quiet (first | (go_at_call 100; (with_reducible refine (udp_Size.calls a0 t286 true _ A3.out).mono ?_); rintro e w9 ⟨rfl, hb⟩; (try clear A3); replace HB := BS HB hb; (try clear hb)) | (go_at_call 41; (with_reducible refine (octet_Get.calls a0 0 2 t288 t289 _ A5.out).mono ?_); rintro e w10 ⟨rfl, hb⟩; (try clear A5); replace HB := BS HB hb; (try clear hb)) | (go_at_call 41; (with_reducible refine (octet_Get.calls a0 2 2 t290 t291 _ A6.out).mono ?_); rintro e w11 ⟨rfl, hb⟩; (try clear A6); replace HB := BS HB hb; (try clear hb))); try go_wp2_with (first | (go_at_call 100; (with_reducible refine (udp_Size.calls a0 t286 true _ A3.out).mono ?_); rintro e w9 ⟨rfl, hb⟩; (try clear A3); replace HB := BS HB hb; (try clear hb)) | (go_at_call 41; (with_reducible refine (octet_Get.calls a0 0 2 t288 t289 _ A5.out).mono ?_); rintro e w10 ⟨rfl, hb⟩; (try clear A5); replace HB := BS HB hb; (try clear hb)) | (go_at_call 41; (with_reducible refine (octet_Get.calls a0 2 2 t290 t291 _ A6.out).mono ?_); rintro e w11 ⟨rfl, hb⟩; (try clear A6); replace HB := BS HB hb; (try clear hb))))
  refine bodyPost_ret (results_list (rs := [.tmp 2, .tmp 3, .tmp 4, .tmp 5]) rfl (by simp) (.tmp (.tmp (.tmp (.tmp .nil))))) rfl ?_
  exact ⟨RT, BW HB⟩
 rw [if_neg c8] at H
 exact absurd H (by simp)

def udp_Parse.f (a0 : ByteArray) : Option (Int × Int × ByteArray × Int) :=
 if a0.size ≤ big then some ((Sp.udpParse (bl a0)).1, (Sp.udpParse (bl a0)).2.1, lb (Sp.udpParse (bl a0)).2.2.1, (Sp.udpParse (bl a0)).2.2.2) else none
theorem udp_Parse_eq {a0 : ByteArray} (h : a0.size ≤ 281474976710656) : udp_Parse.f a0 = some ((Sp.udpParse (bl a0)).1, (Sp.udpParse (bl a0)).2.1, lb (Sp.udpParse (bl a0)).2.2.1, (Sp.udpParse (bl a0)).2.2.2) := by unfold udp_Parse.f; exact if_pos h
theorem udp_Parse_ev (a0 : ByteArray) (r : Int × Int × ByteArray × Int) (h : udp_Parse.f a0 = some r) : udp_Parse_p.f a0 = some r := by
 unfold udp_Parse.f at h
 split at h
 case isFalse => cases h
 case isTrue hs =>
  unfold big at hs
  rw [← h]
  unfold udp_Parse_p.f Sp.udpParse
  rw [bl_length]
  by_cases h8 : (a0.size : Int) < 8
  ·rw [if_pos h8, if_pos h8]; rfl
  rw [if_neg h8, if_neg h8, udp_Size_eq hs, Option.bind_some]
  unfold Sp.udpSize
  rw [bl_length, if_neg h8]
  by_cases h2 : Sp.udpLen (bl a0) < 8 ∨ Sp.udpLen (bl a0) > (a0.size : Int)
  ·rw [if_pos h2, if_pos h2]; rfl
  rw [if_neg h2, if_neg h2, if_pos rfl, octet_Get_eq _ _ _ hs, octet_Get_eq _ _ _ hs, Option.bind_some, Option.bind_some,
   show Sp.get (bl a0) 0 2 = (Sp.beNum (((bl a0).drop 0).take 2), true) from Sp.get2 (bl a0) 0 (by rw [bl_length]; omega), show Sp.get (bl a0) 2 2 = (Sp.beNum (((bl a0).drop 2).take 2), true) from Sp.get2 (bl a0) 2 (by rw [bl_length]; omega),
   if_pos (by show 8 ≤ Sp.udpLen (bl a0); omega), if_pos (by show Sp.udpLen (bl a0) ≤ (a0.size : Int); omega)]
  rw [List.drop_zero, ← Sp.lb_bl (a0.extract _ _), Sp.bl_extract]

theorem udp_Parse.calls (a0 : ByteArray) (r1 : Int) (r2 : Int) (r3 : ByteArray) (r4 : Int) (w : World) (h : udp_Parse.f a0 = some (r1, r2, r3, r4)) :
  Calls Tryz.prog 92 #[.string a0] w fun e w' => e = .returned (.tuple #[.int .i64 r1, .int .i64 r2, .string r3, .int .i64 r4]) ∧ Below w.heap.size w w' := by
 have hk := udp_Parse_ev a0 _ h
 exact udp_Parse_p.calls a0 r1 r2 r3 r4 w hk

end Go.Proofs.YtfnjohklmpiboaaGreat.Pr
