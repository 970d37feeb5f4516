-- Written by a program of the session (wip/tools) out of the translation, over the kit's print; with pieces of the session's own.
import Derived.Test.YtkganedlhcepfaaPr0
import Derived.Test.YtkganedlhcepfaaPr2
import Derived.Test.YtkganedlhcepfaaPr4
import Derived.Test.YtkganedlhcepfaaPr5
import Derived.Test.YtkganedlhcepfaaPr8
namespace Go.Proofs.Ytkganedlhcepfaa.Pr
open Go.RowKit Go.Proofs.YtkganedlhcepfaaW.PrintWords Go.Proofs.YtkganedlhcepfaaW.PrintLast Go.Proofs.YtkganedlhcepfaaW.PrintMore
attribute [local go_sem] max2_int min2_int max_two min_two max_three min_three max_four min_four   -- for this text's walks alone
set_option linter.unusedVariables false
set_option linter.unusedSimpArgs false
open Go.Proofs.Ytkganedlhcepfaa.Sp
/-! ### weighbridgeref08_Place_p: function 71 -/
def weighbridgeref08_Place_p.f (a0 : Int) : Option (Int × Bool) := if a0 = 6 then (some (16, true)) else (if a0 = 17 then (some (6, true)) else (some (0, false)))
set_option maxHeartbeats 8000000 in
set_option maxRecDepth 100000 in
theorem weighbridgeref08_Place_p.calls (a0 : Int) (r1 : Int) (r2 : Bool) (w : World) (h : weighbridgeref08_Place_p.f a0 = some (r1, r2)) :
  Calls Try.prog 71 #[.int .i64 a0] w fun e w' => e = .returned (.tuple #[.int .i64 r1, .bool r2]) ∧ Drawn0 w w' := by
 have H : (if a0 = 6 then (some (16, true)) else (if a0 = 17 then (some (6, true)) else (some (0, false)))) = some (r1, r2) := h
 clear h
 by_cases c2 : a0 = 6
 ·rw [if_pos c2] at H
  have c2b0 := BT c2
  have c2b1 := NF c2
  clear c2
  simp only [Option.some.injEq, Prod.mk.injEq] at H
  obtain ⟨rfl, rfl⟩ := H
  go_enter Try.func71, Try.ntmps71
  go_wp2
  go_ret2
  exact ⟨RS, DW⟩
 rw [if_neg c2] at H
 have c2b0 := BF c2
 have c2b1 := NT c2
 by_cases c3 : a0 = 17
 ·rw [if_pos c3] at H
  have c3b0 := BT c3
  have c3b1 := NF c3
  clear c3
  simp only [Option.some.injEq, Prod.mk.injEq] at H
  obtain ⟨rfl, rfl⟩ := H
  go_enter Try.func71, Try.ntmps71
  go_wp2
  go_ret2
  exact ⟨RS, DW⟩
 rw [if_neg c3] at H
 have c3b0 := BF c3
 have c3b1 := NT c3
 simp only [Option.some.injEq, Prod.mk.injEq] at H
 obtain ⟨rfl, rfl⟩ := H
 go_enter Try.func71, Try.ntmps71
 go_wp2
 go_ret2
 exact ⟨RS, DW⟩

def weighbridgeref08_Place.f (a0 : Int) : Option (Int × Bool) := some (Sp.place a0)
theorem weighbridgeref08_Place_ev (a0 : Int) (r : Int × Bool) (h : weighbridgeref08_Place.f a0 = some r) : weighbridgeref08_Place_p.f a0 = some r := by
 unfold weighbridgeref08_Place.f at h
 rw [← h]
 unfold weighbridgeref08_Place_p.f Sp.place
 by_cases h1 : a0 = 6
 ·rw [if_pos h1, if_pos h1]
 rw [if_neg h1, if_neg h1]
 by_cases h2 : a0 = 17
 ·rw [if_pos h2, if_pos h2]
 rw [if_neg h2, if_neg h2]
theorem weighbridgeref08_Place.calls (a0 : Int) (r1 : Int) (r2 : Bool) (w : World) (h : weighbridgeref08_Place.f a0 = some (r1, r2)) :
  Calls Try.prog 71 #[.int .i64 a0] w fun e w' => e = .returned (.tuple #[.int .i64 r1, .bool r2]) ∧ Drawn0 w w' := by
 have hk := weighbridgeref08_Place_ev a0 _ h
 exact weighbridgeref08_Place_p.calls a0 r1 r2 w hk

/-! ### weighbridgeref08_covered_p: function 73 -/
def weighbridgeref08_covered_p.f (a0 : Int) (a1 : ByteArray) : Option (ByteArray) := (weighbridgeref06_Size.f a1).bind fun bt165 => (if a0 = 17 then (if bt165.2 = true then (if 0 ≤ bt165.1 then (if bt165.1 ≤ (a1.size : Int) then (some (a1.extract 0 (bt165.1 : Int).toNat)) else (none)) else (none)) else (some a1)) else (some a1))
set_option maxHeartbeats 8000000 in
set_option maxRecDepth 100000 in
theorem weighbridgeref08_covered_p.calls (a0 : Int) (a1 : ByteArray) (r : ByteArray) (w : World) (h : weighbridgeref08_covered_p.f a0 a1 = some r) :
  Calls Try.prog 73 #[.int .i64 a0, .string a1] w fun e w' => e = .returned (.string r) ∧ Drawn0 w w' := by
 have H := h
 unfold weighbridgeref08_covered_p.f at H
 clear h
 replace H := OB H
 obtain ⟨⟨t165, t166⟩, A3, H⟩ := H
 (try set_option simprocs false in dsimp only at H)
 go_enter Try.func73, Try.ntmps73
 go_upto_region 2 with (first | ((with_reducible refine gkx 89 rfl ?_); refine gL 9 Try.func89 rfl (weighbridgeref06_Size.calls a1 t165 _ _ A3.out) ?_; rintro w' ⟨nd, rfl⟩))
 by_cases c4 : a0 = 17
 rotate_left
 ·rw [if_neg c4] at H
  have c4b0 := BF c4
  have c4b1 := NT c4
  obtain rfl := Option.some.inj H
  go_wp2_with (fail)
  go_ret
  exact ⟨RS, DW⟩
 rw [if_pos c4] at H
 have c4b0 := BT c4
 have c4b1 := NF c4
 clear c4
 by_cases c5 : t166 = true
 ·subst c5
  first | rw [if_pos rfl] at H | rw [if_pos trivial] at H
  by_cases c6 : 0 ≤ t165
  ·rw [if_pos c6] at H
   have c6b0 := eq_true c6
   have c6b1 := decide_eq_true c6
   clear c6
   by_cases c7 : t165 ≤ (a1.size : Int)
   ·rw [if_pos c7] at H
    have c7b0 := eq_true c7
    have c7b1 := decide_eq_true c7
    clear c7
    obtain rfl := Option.some.inj H
    go_wp2_with (fail)
    go_ret
    exact ⟨RS, DW⟩
   rw [if_neg c7] at H
   exact absurd H (by simp)
  rw [if_neg c6] at H
  exact absurd H (by simp)
 replace c5 := Bool.eq_false_iff.mpr c5
 subst c5
 replace H := IFN H
 obtain rfl := Option.some.inj H
 go_wp2_with (fail)
 go_ret
 exact ⟨RS, DW⟩

theorem r8_cov_lb (a0 : Int) (s : ByteArray) : (if a0 = 17 ∧ (Sp.udpSize (bl s)).2 = true then s.extract 0 (Sp.udpSize (bl s)).1.toNat else s) = lb (Sp.cov a0 (bl s)) := by
 unfold Sp.cov
 split
 ·exact Sp.bl_inj (by rw [Sp.bl_extract, bl_lb, List.drop_zero])
 rw [Sp.lb_bl]
theorem r8_udpSize_in (s : ByteArray) (h : (Sp.udpSize (bl s)).2 = true) : 0 ≤ (Sp.udpSize (bl s)).1 ∧ (Sp.udpSize (bl s)).1 ≤ s.size := by
 have hb := Sp.udpLen_bounds (bl s)
 unfold Sp.udpSize at h ⊢
 rw [bl_length] at h ⊢
 split at h
 case isTrue => cases h
 case isFalse h1 =>
  split at h
  case isTrue => cases h
  case isFalse h2 => rw [if_neg h1, if_neg h2]; exact ⟨hb.1, by show Sp.udpLen (bl s) ≤ _; omega⟩
def weighbridgeref08_covered.f (a0 : Int) (a1 : ByteArray) : Option ByteArray := if a1.size ≤ big01 then some (lb (Sp.cov a0 (bl a1))) else none
theorem weighbridgeref08_covered_eq {a0 : Int} {a1 : ByteArray} (h : a1.size ≤ 281474976710656) : weighbridgeref08_covered.f a0 a1 = some (lb (Sp.cov a0 (bl a1))) := by unfold weighbridgeref08_covered.f; exact if_pos h
theorem weighbridgeref08_covered_ev (a0 : Int) (a1 : ByteArray) (r : ByteArray) (h : weighbridgeref08_covered.f a0 a1 = some r) : weighbridgeref08_covered_p.f a0 a1 = some r := by
 unfold weighbridgeref08_covered.f at h
 split at h
 case isFalse => cases h
 case isTrue hs =>
  unfold big01 at hs
  rw [← h, ← r8_cov_lb]
  unfold weighbridgeref08_covered_p.f
  rw [weighbridgeref06_Size_eq hs, Option.bind_some]
  by_cases h1 : a0 = 17
  ·rw [if_pos h1]
   by_cases h2 : (Sp.udpSize (bl a1)).2 = true
   ·have hb := r8_udpSize_in a1 h2
    rw [if_pos h2, if_pos hb.1, if_pos hb.2, if_pos ⟨h1, h2⟩]
   rw [if_neg h2, if_neg (fun h => h2 h.2)]
  rw [if_neg h1, if_neg (fun h => h1 h.1)]
theorem weighbridgeref08_covered.calls (a0 : Int) (a1 : ByteArray) (r : ByteArray) (w : World) (h : weighbridgeref08_covered.f a0 a1 = some r) :
  Calls Try.prog 73 #[.int .i64 a0, .string a1] w fun e w' => e = .returned (.string r) ∧ Drawn0 w w' := by
 have hk := weighbridgeref08_covered_ev a0 a1 _ h
 exact weighbridgeref08_covered_p.calls a0 a1 r w hk

/-! ### weighbridgeref08_head_p: function 74 -/
def weighbridgeref08_head_p.f (a0 : Int) (a1 : Int) (a2 : Int) (a3 : Int) : Option (ByteArray) := (weighbridgeref04_Num.f 4 (wrap64 (a1))).bind fun t167 => ((weighbridgeref04_Num.f 4 (wrap64 (a2))).bind fun t168 => (if t167.size + t168.size ≤ 9223372036854775807 then (if (t167 ++ t168).size + 1 ≤ 9223372036854775807 then ((weighbridgeref04_Num.f 1 a0).bind fun t169 => (if ((t167 ++ t168) ++ (⟨#[0]⟩ : ByteArray)).size + t169.size ≤ 9223372036854775807 then ((weighbridgeref04_Num.f 2 (Int.tmod a3 65536)).bind fun t170 => (if (((t167 ++ t168) ++ (⟨#[0]⟩ : ByteArray)) ++ t169).size + t170.size ≤ 9223372036854775807 then (some ((((t167 ++ t168) ++ (⟨#[0]⟩ : ByteArray)) ++ t169) ++ t170)) else (none))) else (none))) else (none)) else (none)))
set_option maxHeartbeats 8000000 in
set_option maxRecDepth 100000 in
theorem weighbridgeref08_head_p.calls (a0 : Int) (a1 : Int) (a2 : Int) (a3 : Int) (r : ByteArray) (w : World) (h : weighbridgeref08_head_p.f a0 a1 a2 a3 = some r) :
  Calls Try.prog 74 #[.int .i64 a0, .int .u32 a1, .int .u32 a2, .int .i64 a3] w fun e w' => e = .returned (.string r) ∧ Below w.heap.size w w' := by
 have HB := AA (Below.refl w.heap.size w)
 have H := h
 unfold weighbridgeref08_head_p.f at H
 clear h
 replace H := OB H
 obtain ⟨t167, A5, H⟩ := H
 (try set_option simprocs false in dsimp only at H)
 replace H := OB H
 obtain ⟨t168, A6, H⟩ := H
 (try set_option simprocs false in dsimp only at H)
 replace H := IT H
 obtain ⟨c7, H⟩ := H
 have c7b0 := eq_true c7
 have c7b1 := decide_eq_true c7
 try have c7b2 : (9223372036854775807 < t167.size + t168.size) = False := eq_false (Nat.not_lt.2 c7)
 replace H := IT H
 obtain ⟨c8, H⟩ := H
 have c8b0 := eq_true c8
 have c8b1 := decide_eq_true c8
 try have c8b2 : (9223372036854775807 < (t167 ++ t168).size + 1) = False := eq_false (Nat.not_lt.2 c8)
 (try (have c8r := c8; (repeat rw [ByteArray.size_append] at c8r); (repeat rw [ByteArray.size_extract] at c8r); (repeat rw [Nat.sub_zero] at c8r); (repeat rw [Nat.min_self] at c8r); have c8rt := eq_true c8r; have c8ru := eq_false (Nat.not_lt.mpr c8r); clear c8r))
 (try (have c8s := c8; simp [c7b0] at c8s; have c8t := eq_true c8s; have c8u := eq_false (Nat.not_lt.mpr c8s); clear c8s))
 replace H := OB H
 obtain ⟨t169, A9, H⟩ := H
 (try set_option simprocs false in dsimp only at H)
 replace H := IT H
 obtain ⟨c10, H⟩ := H
 have c10b0 := eq_true c10
 have c10b1 := decide_eq_true c10
 try have c10b2 : (9223372036854775807 < ((t167 ++ t168) ++ (⟨#[0]⟩ : ByteArray)).size + t169.size) = False := eq_false (Nat.not_lt.2 c10)
 (try (have c10r := c10; (repeat rw [ByteArray.size_append] at c10r); (repeat rw [ByteArray.size_extract] at c10r); (repeat rw [Nat.sub_zero] at c10r); (repeat rw [Nat.min_self] at c10r); (try rw [show (⟨#[0]⟩ : ByteArray).size = 1 from rfl] at c10r); have c10rt := eq_true c10r; have c10ru := eq_false (Nat.not_lt.mpr c10r); clear c10r))
 (try (have c10s := c10; simp [c7b0, c8b0] at c10s; have c10t := eq_true c10s; have c10u := eq_false (Nat.not_lt.mpr c10s); clear c10s))
 replace H := OB H
 obtain ⟨t170, A11, H⟩ := H
 (try set_option simprocs false in dsimp only at H)
 by_cases c12 : (((t167 ++ t168) ++ (⟨#[0]⟩ : ByteArray)) ++ t169).size + t170.size ≤ 9223372036854775807
 ·rw [if_pos c12] at H
  have c12b0 := eq_true c12
  have c12b1 := decide_eq_true c12
  try have c12b2 : (9223372036854775807 < (((t167 ++ t168) ++ (⟨#[0]⟩ : ByteArray)) ++ t169).size + t170.size) = False := eq_false (Nat.not_lt.2 c12)
  (try (have c12r := c12; (repeat rw [ByteArray.size_append] at c12r); (repeat rw [ByteArray.size_extract] at c12r); (repeat rw [Nat.sub_zero] at c12r); (repeat rw [Nat.min_self] at c12r); (try rw [show (⟨#[0]⟩ : ByteArray).size = 1 from rfl] at c12r); have c12rt := eq_true c12r; have c12ru := eq_false (Nat.not_lt.mpr c12r); clear c12r))
  (try (have c12s := c12; simp [c7b0, c8b0, c10b0] at c12s; have c12t := eq_true c12s; have c12u := eq_false (Nat.not_lt.mpr c12s); clear c12s))
  obtain rfl := Option.some.inj H
  go_enter Try.func74, Try.ntmps74
  go_wp2_with (first | ((with_reducible refine gkx 34 rfl ?_); refine gL 11 Try.func34 rfl (weighbridgeref04_Num.calls 4 (wrap64 (a1)) t167 _ A5.out) ?_; rintro w13 hb; (try clear A5); replace HB := BS HB hb; (try clear hb)) | ((with_reducible refine gkx 34 rfl ?_); refine gL 14 Try.func34 rfl (weighbridgeref04_Num.calls 4 (wrap64 (a2)) t168 _ A6.out) ?_; rintro w14 hb; (try clear A6); replace HB := BS HB hb; (try clear hb)) | ((with_reducible refine gkx 34 rfl ?_); refine gL 18 Try.func34 rfl (weighbridgeref04_Num.calls 1 a0 t169 _ A9.out) ?_; rintro w15 hb; (try clear A9); replace HB := BS HB hb; (try clear hb)) | ((with_reducible refine gkx 34 rfl ?_); refine gL 22 Try.func34 rfl (weighbridgeref04_Num.calls 2 (Int.tmod a3 65536) t170 _ A11.out) ?_; rintro w16 hb; (try clear A11); replace HB := BS HB hb; (try clear hb)))
  go_ret
  exact ⟨RT, BW HB⟩
 rw [if_neg c12] at H
 exact absurd H (by simp)

def r32 (n : Int) : Bool := decide (0 ≤ n ∧ n ≤ 4294967295)
def weighbridgeref08_head.f (a0 a1 a2 a3 : Int) : Option ByteArray := if (Sp.place a0).2 = true ∧ r32 a1 = true ∧ r32 a2 = true ∧ r32 a3 = true then some (lb (Sp.phead a0 a1 a2 a3)) else none
theorem r32_iff {n : Int} : r32 n = true ↔ 0 ≤ n ∧ n ≤ 4294967295 := decide_eq_true_iff
theorem weighbridgeref08_head_eq {a0 a1 a2 a3 : Int} (hp : (Sp.place a0).2 = true) (h1 : 0 ≤ a1 ∧ a1 ≤ 4294967295) (h2 : 0 ≤ a2 ∧ a2 ≤ 4294967295) (h3 : 0 ≤ a3 ∧ a3 ≤ 4294967295) : weighbridgeref08_head.f a0 a1 a2 a3 = some (lb (Sp.phead a0 a1 a2 a3)) := by
 unfold weighbridgeref08_head.f; exact if_pos ⟨hp, r32_iff.2 h1, r32_iff.2 h2, r32_iff.2 h3⟩
theorem weighbridgeref08_head_ev (a0 a1 a2 a3 : Int) (r : ByteArray) (h : weighbridgeref08_head.f a0 a1 a2 a3 = some r) : weighbridgeref08_head_p.f a0 a1 a2 a3 = some r := by
 unfold weighbridgeref08_head.f at h
 split at h
 case isFalse => cases h
 case isTrue hs =>
  obtain ⟨hp, h1, h2, h3⟩ := hs
  have h1 := r32_iff.1 h1
  have h2 := r32_iff.1 h2
  have h3 := r32_iff.1 h3
  have hp' : 0 ≤ a0 ∧ a0 ≤ 255 := by
   rcases Sp.place_cases a0 with ⟨e, _⟩ | ⟨e, _⟩ | ⟨_, _, e⟩
   ·omega
   ·omega
   ·rw [e] at hp; cases hp
  have f4 : ∀ n : Int, 0 ≤ n ∧ n ≤ 4294967295 → Sp.fits 4 n = true := fun n h => Sp.fits_iff.2 ⟨by decide, by decide, h.1, by show n < 256 ^ 4; omega⟩
  have f1 : Sp.fits 1 a0 = true := Sp.fits_iff.2 ⟨by decide, by decide, hp'.1, by show a0 < 256 ^ 1; omega⟩
  rw [← h]
  unfold weighbridgeref08_head_p.f
  rw [Int.tmod_eq_emod_of_nonneg h3.1, r6_wrap (n := a1) (by omega) (by omega), r6_wrap (n := a2) (by omega) (by omega), weighbridgeref04_Num_yes (f4 a1 h1), Option.bind_some, weighbridgeref04_Num_yes (f4 a2 h2), Option.bind_some, weighbridgeref04_Num_yes f1,
   weighbridgeref04_Num_yes (Sp.fits2.2 (by omega))]
  rw [show (⟨#[0]⟩ : ByteArray) = lb [0] from rfl, Sp.lb_append, Sp.lb_append]
  rw [if_pos (by rw [lb_size, lb_size, Sp.beBytes_length, Sp.beBytes_length]; decide), if_pos (by rw [lb_size, List.length_append, Sp.beBytes_length, Sp.beBytes_length]; decide), Option.bind_some, if_pos (by rw [lb_size, lb_size, List.length_append, List.length_append, Sp.beBytes_length, Sp.beBytes_length, Sp.beBytes_length]; decide), Option.bind_some,
   Sp.lb_append, if_pos (by rw [lb_size, lb_size, List.length_append, List.length_append, List.length_append, Sp.beBytes_length, Sp.beBytes_length, Sp.beBytes_length, Sp.beBytes_length]; decide), Sp.lb_append]
  rfl
theorem weighbridgeref08_head.calls (a0 : Int) (a1 : Int) (a2 : Int) (a3 : Int) (r : ByteArray) (w : World) (h : weighbridgeref08_head.f a0 a1 a2 a3 = some r) :
  Calls Try.prog 74 #[.int .i64 a0, .int .u32 a1, .int .u32 a2, .int .i64 a3] w fun e w' => e = .returned (.string r) ∧ Below w.heap.size w w' := by
 have hk := weighbridgeref08_head_ev a0 a1 a2 a3 _ h
 exact weighbridgeref08_head_p.calls a0 a1 a2 a3 r w hk

/-! ### weighbridgeref08_Check_p: function 72 -/
def weighbridgeref08_Check_p.j0 : Nat → Int → Int → Int → ByteArray → ByteArray → Bool → Option (Int × Bool)
 | 0, _, _, _, _, _, _ => none
 | k + 1, x0, x1, x2, x12, x13, x35 => if x35 = true then (some (0, false)) else ((weighbridgeref08_head.f x0 x1 x2 (x12.size : Int)).bind fun t180 => (if t180.size + x13.size ≤ 9223372036854775807 then ((weighbridgeref03_Check.f (t180 ++ x13)).bind fun t181 => (if x0 = 17 then (if t181 = 0 then (some (65535, true)) else (some (t181, true))) else (some (t181, true)))) else (none)))
def weighbridgeref08_Check_p.f (k : Nat) (a0 : Int) (a1 : Int) (a2 : Int) (a3 : ByteArray) : Option (Int × Bool) := (weighbridgeref08_Place.f a0).bind fun bt175 => ((weighbridgeref08_covered.f a0 a3).bind fun t177 => ((weighbridgeref01_Set.f t177 bt175.1 2 0).bind fun bt178 => (if bt175.2 = true then (weighbridgeref08_Check_p.j0 k a0 a1 a2 t177 bt178.1 (!bt178.2)) else (weighbridgeref08_Check_p.j0 k a0 a1 a2 t177 bt178.1 true))))
theorem weighbridgeref08_Check_p.mono_l : ∀ k, (∀ y0 y1 y2 y3 y4 y5, LeO (weighbridgeref08_Check_p.j0 k y0 y1 y2 y3 y4 y5) (weighbridgeref08_Check_p.j0 (k + 1) y0 y1 y2 y3 y4 y5))
 | 0 => fun _ _ _ _ _ _ r h => by simp [weighbridgeref08_Check_p.j0] at h
 | k + 1 => by
  have ih0 := weighbridgeref08_Check_p.mono_l k
  ·intro y0 y1 y2 y3 y4 y5
   unfold weighbridgeref08_Check_p.j0
   repeat' first
   | (with_reducible exact ih0 _ _ _ _ _ _)
   | (with_reducible exact LeO.refl _)
   | (with_reducible exact LeO.none _)
   | (with_reducible refine LeO.ite ?_ ?_)
   | (with_reducible refine LeO.bind ?_ (fun _ => ?_))
   | exact ih0 _ _ _ _ _ _
   | exact LeO.none _
   | refine LeO.ite ?_ ?_
   | refine LeO.bind ?_ (fun _ => ?_)
theorem weighbridgeref08_Check_p.mono : ∀ a0 a1 a2 a3 k, LeO (weighbridgeref08_Check_p.f k a0 a1 a2 a3) (weighbridgeref08_Check_p.f (k + 1) a0 a1 a2 a3) := by
 intro a0 a1 a2 a3 k
 have ih0 := weighbridgeref08_Check_p.mono_l k
 unfold weighbridgeref08_Check_p.f
 repeat' first
   | (with_reducible exact ih0 _ _ _ _ _ _)
   | (with_reducible exact LeO.refl _)
   | (with_reducible exact LeO.none _)
   | (with_reducible refine LeO.ite ?_ ?_)
   | (with_reducible refine LeO.bind ?_ (fun _ => ?_))
   | exact ih0 _ _ _ _ _ _
   | exact LeO.none _
   | refine LeO.ite ?_ ?_
   | refine LeO.bind ?_ (fun _ => ?_)
set_option maxHeartbeats 8000000 in
set_option maxRecDepth 100000 in
theorem weighbridgeref08_Check_p.calls (k : Nat) (a0 : Int) (a1 : Int) (a2 : Int) (a3 : ByteArray) (r1 : Int) (r2 : Bool) (w : World) (h : weighbridgeref08_Check_p.f k a0 a1 a2 a3 = some (r1, r2)) :
  Calls Try.prog 72 #[.int .i64 a0, .int .u32 a1, .int .u32 a2, .string a3] w fun e w' => e = .returned (.tuple #[.int .u16 r1, .bool r2]) ∧ Below w.heap.size w w' := by
 have HB := AA (Below.refl w.heap.size w)
 have H : ((weighbridgeref08_Place.f a0).bind fun bt175 => ((weighbridgeref08_covered.f a0 a3).bind fun t177 => ((weighbridgeref01_Set.f t177 bt175.1 2 0).bind fun bt178 => (if bt175.2 = true then (weighbridgeref08_Check_p.j0 k a0 a1 a2 t177 bt178.1 (!bt178.2)) else (weighbridgeref08_Check_p.j0 k a0 a1 a2 t177 bt178.1 true))))) = some (r1, r2) := h
 clear h
 replace H := OB H
 obtain ⟨⟨t175, t176⟩, A5, H⟩ := H
 (try set_option simprocs false in dsimp only at H)
 replace H := OB H
 obtain ⟨t177, A6, H⟩ := H
 (try set_option simprocs false in dsimp only at H)
 replace H := OB H
 obtain ⟨⟨t178, t179⟩, A7, H⟩ := H
 (try set_option simprocs false in dsimp only at H)
 have HC8 := AA H
 clear H
 go_enter Try.func72, Try.ntmps72
 go_upto_region 4 with (first | ((with_reducible refine gkx 71 rfl ?_); refine gL 18 Try.func71 rfl (weighbridgeref08_Place.calls a0 t175 t176 _ A5.out) ?_; rintro w' ⟨nd, rfl⟩) | ((with_reducible refine gkx 73 rfl ?_); refine gL 23 Try.func73 rfl (weighbridgeref08_covered.calls a0 a3 t177 _ A6.out) ?_; rintro w' ⟨nd, rfl⟩) | ((with_reducible refine gkx 78 rfl ?_); refine gL 27 Try.func78 rfl (weighbridgeref01_Set.calls t177 t175 2 0 t178 t179 _ A7.out) ?_; rintro w9 hb; replace HB := BS HB hb; (try clear hb)))
 (try simp only [Act.put, List.setIfInBounds_toArray, List.set_cons_zero, List.set_cons_succ])
 go_cut [35] (fun v35 wc => ∃ (kq : Nat) (x35_7 : Bool), v35 = .bool x35_7 ∧ Aside0 (weighbridgeref08_Check_p.j0 kq a0 a1 a2 t177 t178 x35_7 = some (r1, r2)) ∧ Aside0 (kq ≤ k) ∧ Aside0 (Below w.heap.size w wc))
 case first =>
  have H := HC8.out
  clear HC8
  by_cases c10 : t176 = true
  ·subst c10
   first | rw [if_pos rfl] at H | rw [if_pos trivial] at H
   have H' := AA H
   clear H
   go_wp2
   go_meet
   case rel => exact ⟨_, (!t179), QS, H', LR, ⟨BW HB⟩⟩
  replace c10 := Bool.eq_false_iff.mpr c10
  subst c10
  replace H := IFN H
  have H' := AA H
  clear H
  go_wp2
  go_meet
  case rel => exact ⟨_, (true), QS, H', LR, ⟨BW HB⟩⟩
 case rest =>
  clear HC8
  try clear c1; try clear p2; try clear c7; try clear c10
  obtain ⟨kq, x35_7, rfl, HA, HJ7, HB⟩ := hcut
  cases kq with
  | zero => exact absurd HA.out (by simp [weighbridgeref08_Check_p.j0])
  | succ kj7 =>
   have H := HA.out
   clear HA
   simp only [weighbridgeref08_Check_p.j0] at H
   by_cases c11 : x35_7 = true
   ·subst c11
    first | rw [if_pos rfl] at H | rw [if_pos trivial] at H
    simp only [Option.some.injEq, Prod.mk.injEq] at H
    obtain ⟨rfl, rfl⟩ := H
    go_wp2
    go_ret2
    exact ⟨RT, BW HB⟩
   replace c11 := Bool.eq_false_iff.mpr c11
   subst c11
   replace H := IFN H
   replace H := OB H
   obtain ⟨t180, A12, H⟩ := H
   (try set_option simprocs false in dsimp only at H)
   replace H := IT H
   obtain ⟨c13, H⟩ := H
   have c13b0 := eq_true c13
   have c13b1 := decide_eq_true c13
   try have c13b2 : (9223372036854775807 < t180.size + t178.size) = False := eq_false (Nat.not_lt.2 c13)
   replace H := OB H
   obtain ⟨t181, A14, H⟩ := H
   (try set_option simprocs false in dsimp only at H)
   by_cases c15 : a0 = 17
   ·rw [if_pos c15] at H
    have c15b0 := BT c15
    have c15b1 := NF c15
    clear c15
    by_cases c16 : t181 = 0
    ·rw [if_pos c16] at H
     have c16b0 := BT c16
     have c16b1 := NF c16
     clear c16
     simp only [Option.some.injEq, Prod.mk.injEq] at H
     obtain ⟨rfl, rfl⟩ := H
     go_wp2_with (first | ((with_reducible refine gkx 74 rfl ?_); refine gL 41 Try.func74 rfl (weighbridgeref08_head.calls a0 a1 a2 (t177.size : Int) t180 _ A12.out) ?_; rintro w17 hb; (try clear A12); replace HB := BS HB hb; (try clear hb)) | ((with_reducible refine gkx 35 rfl ?_); refine gL 44 Try.func35 rfl (weighbridgeref03_Check.calls (t180 ++ t178) t181 _ A14.out) ?_; rintro w18 hb; (try clear A14); replace HB := BS HB hb; (try clear hb)))
     go_ret2
     exact ⟨RT, BW HB⟩
    rw [if_neg c16] at H
    have c16b0 := BF c16
    have c16b1 := NT c16
    simp only [Option.some.injEq, Prod.mk.injEq] at H
    obtain ⟨rfl, rfl⟩ := H
    go_wp2_with (first | ((with_reducible refine gkx 74 rfl ?_); refine gL 41 Try.func74 rfl (weighbridgeref08_head.calls a0 a1 a2 (t177.size : Int) t180 _ A12.out) ?_; rintro w19 hb; (try clear A12); replace HB := BS HB hb; (try clear hb)) | ((with_reducible refine gkx 35 rfl ?_); refine gL 44 Try.func35 rfl (weighbridgeref03_Check.calls (t180 ++ t178) t181 _ A14.out) ?_; rintro w20 hb; (try clear A14); replace HB := BS HB hb; (try clear hb)))
    go_ret2
    exact ⟨RT, BW HB⟩
   rw [if_neg c15] at H
   have c15b0 := BF c15
   have c15b1 := NT c15
   simp only [Option.some.injEq, Prod.mk.injEq] at H
   obtain ⟨rfl, rfl⟩ := H
   go_wp2_with (first | ((with_reducible refine gkx 74 rfl ?_); refine gL 41 Try.func74 rfl (weighbridgeref08_head.calls a0 a1 a2 (t177.size : Int) t180 _ A12.out) ?_; rintro w21 hb; (try clear A12); replace HB := BS HB hb; (try clear hb)) | ((with_reducible refine gkx 35 rfl ?_); refine gL 44 Try.func35 rfl (weighbridgeref03_Check.calls (t180 ++ t178) t181 _ A14.out) ?_; rintro w22 hb; (try clear A14); replace HB := BS HB hb; (try clear hb)))
   go_ret2
   exact ⟨RT, BW HB⟩

def r8dom (p a b : Int) (s : ByteArray) : Bool := i64in p && r32 a && r32 b && decide (s.size ≤ 1000000)
theorem r8dom_iff {p a b : Int} {s : ByteArray} : r8dom p a b s = true ↔ (-9223372036854775808 ≤ p ∧ p ≤ 9223372036854775807) ∧ (0 ≤ a ∧ a ≤ 4294967295) ∧ (0 ≤ b ∧ b ≤ 4294967295) ∧ s.size ≤ 1000000 := by
 unfold r8dom i64in r32; simp [and_assoc]
def weighbridgeref08_Check.f (a0 a1 a2 : Int) (a3 : ByteArray) : Option (Int × Bool) := if r8dom a0 a1 a2 a3 = true then some (Sp.pcheck a0 a1 a2 (bl a3)) else none
theorem weighbridgeref08_Check_eq {a0 a1 a2 : Int} {a3 : ByteArray} (h0 : -9223372036854775808 ≤ a0 ∧ a0 ≤ 9223372036854775807) (h1 : 0 ≤ a1 ∧ a1 ≤ 4294967295) (h2 : 0 ≤ a2 ∧ a2 ≤ 4294967295) (h3 : a3.size ≤ 1000000) : weighbridgeref08_Check.f a0 a1 a2 a3 = some (Sp.pcheck a0 a1 a2 (bl a3)) := by
 unfold weighbridgeref08_Check.f; exact if_pos (r8dom_iff.2 ⟨h0, h1, h2, h3⟩)
theorem weighbridgeref08_Check_ev (a0 a1 a2 : Int) (a3 : ByteArray) (r : Int × Bool) (h : weighbridgeref08_Check.f a0 a1 a2 a3 = some r) : ∃ k, weighbridgeref08_Check_p.f k a0 a1 a2 a3 = some r := by
 unfold weighbridgeref08_Check.f at h
 split at h
 case isFalse => cases h
 case isTrue hs =>
  obtain ⟨h0, h1, h2, h3⟩ := r8dom_iff.1 hs
  have hcl := Sp.cov_length a0 (bl a3)
  rw [bl_length] at hcl
  rw [← h]
  refine ⟨1, ?_⟩
  unfold weighbridgeref08_Check_p.f Sp.pcheck weighbridgeref08_Place.f
  rw [Option.bind_some, weighbridgeref08_covered_eq (by omega), Option.bind_some, weighbridgeref01_Set_eq _ _ _ _ (by rw [lb_size]; omega) (by decide) (by decide), Option.bind_some, bl_lb, show Sp.set (Sp.cov a0 (bl a3)) (Sp.place a0).1 2 0 = Sp.zeroed a0 (bl a3) from rfl]
  simp only [weighbridgeref08_Check_p.j0]
  by_cases hp : (Sp.place a0).2 = true
  rotate_left
  ·rw [if_neg hp, if_pos trivial, if_neg (fun h => hp h.1)]
  rw [if_pos hp]
  by_cases hz : (Sp.zeroed a0 (bl a3)).2 = true
  rotate_left
  ·have hz' : (!((lb (Sp.zeroed a0 (bl a3)).1, (Sp.zeroed a0 (bl a3)).2) : ByteArray × Bool).2) = true := by show (!(Sp.zeroed a0 (bl a3)).2) = true; rw [Sp.bool_no hz]; rfl
   rw [if_pos hz', if_neg (fun h => hz h.2)]
  have hzl : (Sp.zeroed a0 (bl a3)).1.length = (Sp.cov a0 (bl a3)).length := Sp.set_length _ _ _ _ hz
  have hb := Sp.psum_bounds (s := (Sp.zeroed a0 (bl a3)).1) hp h1 h2
  rw [if_neg (by show ¬ (!(Sp.zeroed a0 (bl a3)).2) = true; rw [hz]; decide), if_pos ⟨hp, hz⟩, weighbridgeref08_head_eq hp h1 h2 (by rw [lb_size]; omega), Option.bind_some]
  show (if (lb _).size + (lb (Sp.zeroed a0 (bl a3)).1).size ≤ _ then _ else _) = _
  rw [if_pos (by rw [lb_size (Sp.phead _ _ _ _), lb_size (Sp.zeroed a0 (bl a3)).1, Sp.phead_length]; omega)]
  show (weighbridgeref03_Check.f (lb _ ++ lb (Sp.zeroed a0 (bl a3)).1)).bind _ = _
  rw [Sp.lb_append, weighbridgeref03_Check_eq (by rw [lb_size, List.length_append, Sp.phead_length]; omega), Option.bind_some, bl_lb]
  have e : Sp.check (Sp.phead a0 a1 a2 ((lb (Sp.cov a0 (bl a3))).size : Int) ++ (Sp.zeroed a0 (bl a3)).1) = 65535 - Sp.psum a0 a1 a2 (Sp.zeroed a0 (bl a3)).1 := by
   unfold Sp.check
   rw [Sp.phead_psum (by rw [lb_size, hzl]) hp h1 h2]
  rw [e]
  unfold Sp.pnum
  by_cases e1 : a0 = 17
  ·rw [if_pos e1]
   by_cases e2 : 65535 - Sp.psum a0 a1 a2 (Sp.zeroed a0 (bl a3)).1 = 0
   ·rw [if_pos e2, if_pos ⟨e1, e2⟩]
   rw [if_neg e2, if_neg (fun h => e2 h.2)]
  rw [if_neg e1, if_neg (fun h => e1 h.1)]
theorem weighbridgeref08_Check.calls (a0 : Int) (a1 : Int) (a2 : Int) (a3 : ByteArray) (r1 : Int) (r2 : Bool) (w : World) (h : weighbridgeref08_Check.f a0 a1 a2 a3 = some (r1, r2)) :
  Calls Try.prog 72 #[.int .i64 a0, .int .u32 a1, .int .u32 a2, .string a3] w fun e w' => e = .returned (.tuple #[.int .u16 r1, .bool r2]) ∧ Below w.heap.size w w' := by
 obtain ⟨k, hk⟩ := weighbridgeref08_Check_ev a0 a1 a2 a3 _ h
 exact weighbridgeref08_Check_p.calls k a0 a1 a2 a3 r1 r2 w hk

/-! ### weighbridgeref08_Fill_p: function 39 -/
def weighbridgeref08_Fill_p.f (a0 : Int) (a1 : Int) (a2 : Int) (a3 : ByteArray) : Option (ByteArray × Bool) := (weighbridgeref08_Check.f a0 a1 a2 a3).bind fun bt182 => (if bt182.2 = true then ((weighbridgeref08_Place.f a0).bind fun bt184 => ((weighbridgeref01_Set.f a3 bt184.1 2 (wrap64 (bt182.1))).bind fun bt186 => (some (bt186.1, bt186.2)))) else (some ((⟨#[]⟩ : ByteArray), false)))
set_option maxHeartbeats 8000000 in
set_option maxRecDepth 100000 in
theorem weighbridgeref08_Fill_p.calls (a0 : Int) (a1 : Int) (a2 : Int) (a3 : ByteArray) (r1 : ByteArray) (r2 : Bool) (w : World) (h : weighbridgeref08_Fill_p.f a0 a1 a2 a3 = some (r1, r2)) :
  Calls Try.prog 39 #[.int .i64 a0, .int .u32 a1, .int .u32 a2, .string a3] w fun e w' => e = .returned (.tuple #[.string r1, .bool r2]) ∧ Below w.heap.size w w' := by
 have HB := AA (Below.refl w.heap.size w)
 have H := h
 unfold weighbridgeref08_Fill_p.f at H
 clear h
 replace H := OB H
 obtain ⟨⟨t182, t183⟩, A5, H⟩ := H
 (try set_option simprocs false in dsimp only at H)
 go_enter Try.func39, Try.ntmps39
 go_upto_if 23 with (first | ((with_reducible refine gkx 72 rfl ?_); refine gL 19 Try.func72 rfl (weighbridgeref08_Check.calls a0 a1 a2 a3 t182 _ _ A5.out) ?_; rintro w9 hb; (try clear A5); replace HB := BS HB hb; (try clear hb)))
 by_cases c6 : t183 = true
 ·subst c6
  first | rw [if_pos rfl] at H | rw [if_pos trivial] at H
  replace H := OB H
  obtain ⟨⟨t184, t185⟩, A7, H⟩ := H
  (try set_option simprocs false in dsimp only at H)
  replace H := OB H
  obtain ⟨⟨t186, t187⟩, A8, H⟩ := H
  (try set_option simprocs false in dsimp only at H)
  simp only [Option.some.injEq, Prod.mk.injEq] at H
  obtain ⟨rfl, rfl⟩ := H
  go_wp2_with (first | ((with_reducible refine gkx 71 rfl ?_); refine gL 26 Try.func71 rfl (weighbridgeref08_Place.calls a0 t184 t185 _ A7.out) ?_; rintro w' ⟨nd, rfl⟩) | ((with_reducible refine gkx 78 rfl ?_); refine gL 33 Try.func78 rfl (weighbridgeref01_Set.calls a3 t184 2 (wrap64 (t182)) t186 t187 _ A8.out) ?_; rintro w10 hb; (try clear A8); replace HB := BS HB hb; (try clear hb)))
  go_ret2
  exact ⟨RT, BW HB⟩
 replace c6 := Bool.eq_false_iff.mpr c6
 subst c6
 replace H := IFN H
 simp only [Option.some.injEq, Prod.mk.injEq] at H
 obtain ⟨rfl, rfl⟩ := H
 go_wp2_with (fail)
 go_ret2
 exact ⟨RT, BW HB⟩

def weighbridgeref08_Fill.f (a0 a1 a2 : Int) (a3 : ByteArray) : Option (ByteArray × Bool) := if r8dom a0 a1 a2 a3 = true then some (lb (Sp.pfill a0 a1 a2 (bl a3)).1, (Sp.pfill a0 a1 a2 (bl a3)).2) else none
theorem weighbridgeref08_Fill_eq {a0 a1 a2 : Int} {a3 : ByteArray} (h0 : -9223372036854775808 ≤ a0 ∧ a0 ≤ 9223372036854775807) (h1 : 0 ≤ a1 ∧ a1 ≤ 4294967295) (h2 : 0 ≤ a2 ∧ a2 ≤ 4294967295) (h3 : a3.size ≤ 1000000) : weighbridgeref08_Fill.f a0 a1 a2 a3 = some (lb (Sp.pfill a0 a1 a2 (bl a3)).1, (Sp.pfill a0 a1 a2 (bl a3)).2) := by
 unfold weighbridgeref08_Fill.f; exact if_pos (r8dom_iff.2 ⟨h0, h1, h2, h3⟩)
theorem weighbridgeref08_Fill_ev (a0 a1 a2 : Int) (a3 : ByteArray) (r : ByteArray × Bool) (h : weighbridgeref08_Fill.f a0 a1 a2 a3 = some r) : weighbridgeref08_Fill_p.f a0 a1 a2 a3 = some r := by
 unfold weighbridgeref08_Fill.f at h
 split at h
 case isFalse => cases h
 case isTrue hs =>
  obtain ⟨h0, h1, h2, h3⟩ := r8dom_iff.1 hs
  have hb := Sp.pcheck_bounds (p := a0) (s := bl a3) h1 h2
  rw [← h]
  unfold weighbridgeref08_Fill_p.f Sp.pfill weighbridgeref08_Place.f
  rw [weighbridgeref08_Check_eq h0 h1 h2 h3, Option.bind_some]
  by_cases hc : (Sp.pcheck a0 a1 a2 (bl a3)).2 = true
  ·rw [if_pos hc, if_pos hc, Option.bind_some, r6_wrap (by omega) (by omega), weighbridgeref01_Set_eq _ _ _ _ (by omega) (by omega) (by omega), Option.bind_some]
  rw [if_neg hc, if_neg hc]; rfl
theorem weighbridgeref08_Fill.calls (a0 : Int) (a1 : Int) (a2 : Int) (a3 : ByteArray) (r1 : ByteArray) (r2 : Bool) (w : World) (h : weighbridgeref08_Fill.f a0 a1 a2 a3 = some (r1, r2)) :
  Calls Try.prog 39 #[.int .i64 a0, .int .u32 a1, .int .u32 a2, .string a3] w fun e w' => e = .returned (.tuple #[.string r1, .bool r2]) ∧ Below w.heap.size w w' := by
 have hk := weighbridgeref08_Fill_ev a0 a1 a2 a3 _ h
 exact weighbridgeref08_Fill_p.calls a0 a1 a2 a3 r1 r2 w hk

/-! ### weighbridgeref08_Verify_p: function 32 -/
def weighbridgeref08_Verify_p.f (a0 : Int) (a1 : Int) (a2 : Int) (a3 : ByteArray) : Option (Int) := (weighbridgeref08_Place.f a0).bind fun bt382 => (if bt382.2 = true then ((weighbridgeref08_Check.f a0 a1 a2 a3).bind fun bt384 => (if bt384.2 = true then ((weighbridgeref01_Get.f a3 bt382.1 2).bind fun bt386 => ((weighbridgeref08_covered.f a0 a3).bind fun t388 => (if a0 = 17 then (if bt386.1 = 0 then (some 0) else ((weighbridgeref08_head.f a0 a1 a2 (t388.size : Int)).bind fun t389 => (if t389.size + t388.size ≤ 9223372036854775807 then ((weighbridgeref03_Sum.f (t389 ++ t388)).bind fun t390 => (if t390 = 65535 then (some 0) else (some 7))) else (none)))) else ((weighbridgeref08_head.f a0 a1 a2 (t388.size : Int)).bind fun t391 => (if t391.size + t388.size ≤ 9223372036854775807 then ((weighbridgeref03_Sum.f (t391 ++ t388)).bind fun t392 => (if t392 = 65535 then (some 0) else (some 7))) else (none)))))) else (some 2))) else (some 9))
set_option maxHeartbeats 8000000 in
set_option maxRecDepth 100000 in
theorem weighbridgeref08_Verify_p.calls (a0 : Int) (a1 : Int) (a2 : Int) (a3 : ByteArray) (r : Int) (w : World) (h : weighbridgeref08_Verify_p.f a0 a1 a2 a3 = some r) :
  Calls Try.prog 32 #[.int .i64 a0, .int .u32 a1, .int .u32 a2, .string a3] w fun e w' => e = .returned (.int .i64 r) ∧ Below w.heap.size w w' := by
 have HB := AA (Below.refl w.heap.size w)
 have H := h
 unfold weighbridgeref08_Verify_p.f at H
 clear h
 replace H := OB H
 obtain ⟨⟨t382, t383⟩, A5, H⟩ := H
 (try set_option simprocs false in dsimp only at H)
 go_enter Try.func32, Try.ntmps32
 go_upto_if 22 with (first | ((with_reducible refine gkx 71 rfl ?_); refine gL 18 Try.func71 rfl (weighbridgeref08_Place.calls a0 t382 _ _ A5.out) ?_; rintro w' ⟨nd, rfl⟩))
 by_cases c6 : t383 = true
 rotate_left
 ·replace c6 := Bool.eq_false_iff.mpr c6
  subst c6
  replace H := IFN H
  obtain rfl := Option.some.inj H
  go_wp2_with (fail)
  go_ret
  exact ⟨RT, BW HB⟩
 subst c6
 first | rw [if_pos rfl] at H | rw [if_pos trivial] at H
 replace H := OB H
 obtain ⟨⟨t384, t385⟩, A7, H⟩ := H
 (try set_option simprocs false in dsimp only at H)
 by_cases c8 : t385 = true
 rotate_left
 ·replace c8 := Bool.eq_false_iff.mpr c8
  subst c8
  replace H := IFN H
  obtain rfl := Option.some.inj H
  go_wp2_with (first | ((with_reducible refine gkx 72 rfl ?_); refine gL 28 Try.func72 rfl (weighbridgeref08_Check.calls a0 a1 a2 a3 t384 false _ A7.out) ?_; rintro w34 hb; (try clear A7); replace HB := BS HB hb; (try clear hb)))
  go_ret
  exact ⟨RT, BW HB⟩
 subst c8
 first | rw [if_pos rfl] at H | rw [if_pos trivial] at H
 replace H := OB H
 obtain ⟨⟨t386, t387⟩, A9, H⟩ := H
 (try set_option simprocs false in dsimp only at H)
 replace H := OB H
 obtain ⟨t388, A10, H⟩ := H
 (try set_option simprocs false in dsimp only at H)
 by_cases c11 : a0 = 17
 ·rw [if_pos c11] at H
  have c11b0 := BT c11
  have c11b1 := NF c11
  clear c11
  by_cases c12 : t386 = 0
  ·rw [if_pos c12] at H
   have c12b0 := BT c12
   have c12b1 := NF c12
   clear c12
   obtain rfl := Option.some.inj H
   go_wp2_with (first | ((with_reducible refine gkx 72 rfl ?_); refine gL 28 Try.func72 rfl (weighbridgeref08_Check.calls a0 a1 a2 a3 t384 true _ A7.out) ?_; rintro w13 hb; (try clear A7); replace HB := BS HB hb; (try clear hb)) | ((with_reducible refine gkx 66 rfl ?_); refine gL 36 Try.func66 rfl (weighbridgeref01_Get.calls a3 t382 2 t386 t387 _ A9.out) ?_; rintro w' ⟨nd, rfl⟩) | ((with_reducible refine gkx 73 rfl ?_); refine gL 41 Try.func73 rfl (weighbridgeref08_covered.calls a0 a3 t388 _ A10.out) ?_; rintro w' ⟨nd, rfl⟩))
   go_ret
   exact ⟨RT, BW HB⟩
  rw [if_neg c12] at H
  have c12b0 := BF c12
  have c12b1 := NT c12
  replace H := OB H
  obtain ⟨t389, A14, H⟩ := H
  (try set_option simprocs false in dsimp only at H)
  replace H := IT H
  obtain ⟨c15, H⟩ := H
  have c15b0 := eq_true c15
  have c15b1 := decide_eq_true c15
  try have c15b2 : (9223372036854775807 < t389.size + t388.size) = False := eq_false (Nat.not_lt.2 c15)
  replace H := OB H
  obtain ⟨t390, A16, H⟩ := H
  (try set_option simprocs false in dsimp only at H)
  by_cases c17 : t390 = 65535
  ·rw [if_pos c17] at H
   have c17b0 := BT c17
   have c17b1 := NF c17
   clear c17
   obtain rfl := Option.some.inj H
   go_wp2_with (first | ((with_reducible refine gkx 72 rfl ?_); refine gL 28 Try.func72 rfl (weighbridgeref08_Check.calls a0 a1 a2 a3 t384 true _ A7.out) ?_; rintro w18 hb; (try clear A7); replace HB := BS HB hb; (try clear hb)) | ((with_reducible refine gkx 66 rfl ?_); refine gL 36 Try.func66 rfl (weighbridgeref01_Get.calls a3 t382 2 t386 t387 _ A9.out) ?_; rintro w' ⟨nd, rfl⟩) | ((with_reducible refine gkx 73 rfl ?_); refine gL 41 Try.func73 rfl (weighbridgeref08_covered.calls a0 a3 t388 _ A10.out) ?_; rintro w' ⟨nd, rfl⟩) | (go_at_call 74; (with_reducible refine (weighbridgeref08_head.calls a0 a1 a2 (t388.size : Int) t389 _ A14.out).mono ?_); rintro e w19 ⟨rfl, hb⟩; (try clear A14); replace HB := BS HB hb; (try clear hb)) | (go_at_call 63; (with_reducible refine (weighbridgeref03_Sum.calls (t389 ++ t388) t390 _ A16.out).mono ?_); rintro e w20 ⟨rfl, hb⟩; (try clear A16); replace HB := BS HB hb; (try clear hb)))
   go_ret
   exact ⟨RT, BW HB⟩
  rw [if_neg c17] at H
  have c17b0 := BF c17
  have c17b1 := NT c17
  obtain rfl := Option.some.inj H
  go_wp2_with (first | ((with_reducible refine gkx 72 rfl ?_); refine gL 28 Try.func72 rfl (weighbridgeref08_Check.calls a0 a1 a2 a3 t384 true _ A7.out) ?_; rintro w21 hb; (try clear A7); replace HB := BS HB hb; (try clear hb)) | ((with_reducible refine gkx 66 rfl ?_); refine gL 36 Try.func66 rfl (weighbridgeref01_Get.calls a3 t382 2 t386 t387 _ A9.out) ?_; rintro w' ⟨nd, rfl⟩) | ((with_reducible refine gkx 73 rfl ?_); refine gL 41 Try.func73 rfl (weighbridgeref08_covered.calls a0 a3 t388 _ A10.out) ?_; rintro w' ⟨nd, rfl⟩) | (go_at_call 74; (with_reducible refine (weighbridgeref08_head.calls a0 a1 a2 (t388.size : Int) t389 _ A14.out).mono ?_); rintro e w22 ⟨rfl, hb⟩; (try clear A14); replace HB := BS HB hb; (try clear hb)) | (go_at_call 63; (with_reducible refine (weighbridgeref03_Sum.calls (t389 ++ t388) t390 _ A16.out).mono ?_); rintro e w23 ⟨rfl, hb⟩; (try clear A16); replace HB := BS HB hb; (try clear hb)))
  go_ret
  exact ⟨RT, BW HB⟩
 rw [if_neg c11] at H
 have c11b0 := BF c11
 have c11b1 := NT c11
 replace H := OB H
 obtain ⟨t391, A24, H⟩ := H
 (try set_option simprocs false in dsimp only at H)
 replace H := IT H
 obtain ⟨c25, H⟩ := H
 have c25b0 := eq_true c25
 have c25b1 := decide_eq_true c25
 try have c25b2 : (9223372036854775807 < t391.size + t388.size) = False := eq_false (Nat.not_lt.2 c25)
 replace H := OB H
 obtain ⟨t392, A26, H⟩ := H
 (try set_option simprocs false in dsimp only at H)
 by_cases c27 : t392 = 65535
 ·rw [if_pos c27] at H
  have c27b0 := BT c27
  have c27b1 := NF c27
  clear c27
  obtain rfl := Option.some.inj H
  go_wp2_with (first | ((with_reducible refine gkx 72 rfl ?_); refine gL 28 Try.func72 rfl (weighbridgeref08_Check.calls a0 a1 a2 a3 t384 true _ A7.out) ?_; rintro w28 hb; (try clear A7); replace HB := BS HB hb; (try clear hb)) | ((with_reducible refine gkx 66 rfl ?_); refine gL 36 Try.func66 rfl (weighbridgeref01_Get.calls a3 t382 2 t386 t387 _ A9.out) ?_; rintro w' ⟨nd, rfl⟩) | ((with_reducible refine gkx 73 rfl ?_); refine gL 41 Try.func73 rfl (weighbridgeref08_covered.calls a0 a3 t388 _ A10.out) ?_; rintro w' ⟨nd, rfl⟩) | (go_at_call 74; (with_reducible refine (weighbridgeref08_head.calls a0 a1 a2 (t388.size : Int) t391 _ A24.out).mono ?_); rintro e w29 ⟨rfl, hb⟩; (try clear A24); replace HB := BS HB hb; (try clear hb)) | (go_at_call 63; (with_reducible refine (weighbridgeref03_Sum.calls (t391 ++ t388) t392 _ A26.out).mono ?_); rintro e w30 ⟨rfl, hb⟩; (try clear A26); replace HB := BS HB hb; (try clear hb)))
  go_ret
  exact ⟨RT, BW HB⟩
 rw [if_neg c27] at H
 have c27b0 := BF c27
 have c27b1 := NT c27
 obtain rfl := Option.some.inj H
 go_wp2_with (first | ((with_reducible refine gkx 72 rfl ?_); refine gL 28 Try.func72 rfl (weighbridgeref08_Check.calls a0 a1 a2 a3 t384 true _ A7.out) ?_; rintro w31 hb; (try clear A7); replace HB := BS HB hb; (try clear hb)) | ((with_reducible refine gkx 66 rfl ?_); refine gL 36 Try.func66 rfl (weighbridgeref01_Get.calls a3 t382 2 t386 t387 _ A9.out) ?_; rintro w' ⟨nd, rfl⟩) | ((with_reducible refine gkx 73 rfl ?_); refine gL 41 Try.func73 rfl (weighbridgeref08_covered.calls a0 a3 t388 _ A10.out) ?_; rintro w' ⟨nd, rfl⟩) | (go_at_call 74; (with_reducible refine (weighbridgeref08_head.calls a0 a1 a2 (t388.size : Int) t391 _ A24.out).mono ?_); rintro e w32 ⟨rfl, hb⟩; (try clear A24); replace HB := BS HB hb; (try clear hb)) | (go_at_call 63; (with_reducible refine (weighbridgeref03_Sum.calls (t391 ++ t388) t392 _ A26.out).mono ?_); rintro e w33 ⟨rfl, hb⟩; (try clear A26); replace HB := BS HB hb; (try clear hb)))
 go_ret
 exact ⟨RT, BW HB⟩

def weighbridgeref08_Verify.f (a0 a1 a2 : Int) (a3 : ByteArray) : Option Int := if r8dom a0 a1 a2 a3 = true then some (Sp.pverify a0 a1 a2 (bl a3)) else none
theorem weighbridgeref08_Verify_eq {a0 a1 a2 : Int} {a3 : ByteArray} (h0 : -9223372036854775808 ≤ a0 ∧ a0 ≤ 9223372036854775807) (h1 : 0 ≤ a1 ∧ a1 ≤ 4294967295) (h2 : 0 ≤ a2 ∧ a2 ≤ 4294967295) (h3 : a3.size ≤ 1000000) : weighbridgeref08_Verify.f a0 a1 a2 a3 = some (Sp.pverify a0 a1 a2 (bl a3)) := by
 unfold weighbridgeref08_Verify.f; exact if_pos (r8dom_iff.2 ⟨h0, h1, h2, h3⟩)
theorem weighbridgeref08_Verify_ev (a0 a1 a2 : Int) (a3 : ByteArray) (r : Int) (h : weighbridgeref08_Verify.f a0 a1 a2 a3 = some r) : weighbridgeref08_Verify_p.f a0 a1 a2 a3 = some r := by
 unfold weighbridgeref08_Verify.f at h
 split at h
 case isFalse => cases h
 case isTrue hs =>
  obtain ⟨h0, h1, h2, h3⟩ := r8dom_iff.1 hs
  have hcl := Sp.cov_length a0 (bl a3)
  rw [bl_length] at hcl
  rw [← h]
  unfold weighbridgeref08_Verify_p.f Sp.pverify weighbridgeref08_Place.f
  rw [Option.bind_some]
  by_cases hp : (Sp.place a0).2 = true
  rotate_left
  ·rw [if_neg hp, if_neg hp]
  rw [if_pos hp, if_pos hp, weighbridgeref08_Check_eq h0 h1 h2 h3, Option.bind_some]
  by_cases hc : (Sp.pcheck a0 a1 a2 (bl a3)).2 = true
  ·have hsz : (lb (Sp.phead a0 a1 a2 ((lb (Sp.cov a0 (bl a3))).size : Int))).size + (lb (Sp.cov a0 (bl a3))).size ≤ 9223372036854775807 := by
    rw [lb_size (Sp.phead _ _ _ _), Sp.phead_length, lb_size]; omega
   rw [if_pos hc, if_pos hc, weighbridgeref01_Get_eq _ _ _ (by omega), Option.bind_some, weighbridgeref08_covered_eq (by omega), Option.bind_some, weighbridgeref08_head_eq hp h1 h2 (by rw [lb_size]; omega), Option.bind_some,
    if_pos hsz, Sp.lb_append, weighbridgeref03_Sum_eq (by rw [lb_size, List.length_append, Sp.phead_length]; omega), Option.bind_some, bl_lb, Sp.phead_psum (by rw [lb_size]) hp h1 h2]
   by_cases e1 : a0 = 17
   ·rw [if_pos e1]
    by_cases e2 : (Sp.get (bl a3) (Sp.place a0).1 2).1 = 0
    ·rw [if_pos e2, if_pos (Or.inl ⟨e1, e2⟩)]
    rw [if_neg e2]
    by_cases e3 : Sp.psum a0 a1 a2 (Sp.cov a0 (bl a3)) = 65535
    ·rw [if_pos e3, if_pos (Or.inr e3)]
    rw [if_neg e3, if_neg (fun h => h.elim (fun h => e2 h.2) e3)]
   rw [if_neg e1]
   by_cases e3 : Sp.psum a0 a1 a2 (Sp.cov a0 (bl a3)) = 65535
   ·rw [if_pos e3, if_pos (Or.inr e3)]
   rw [if_neg e3, if_neg (fun h => h.elim (fun h => e1 h.1) e3)]
  rw [if_neg hc, if_neg hc]

theorem weighbridgeref08_Verify.calls (a0 : Int) (a1 : Int) (a2 : Int) (a3 : ByteArray) (r : Int) (w : World) (h : weighbridgeref08_Verify.f a0 a1 a2 a3 = some r) :
  Calls Try.prog 32 #[.int .i64 a0, .int .u32 a1, .int .u32 a2, .string a3] w fun e w' => e = .returned (.int .i64 r) ∧ Below w.heap.size w w' := by
 have hk := weighbridgeref08_Verify_ev a0 a1 a2 a3 _ h
 exact weighbridgeref08_Verify_p.calls a0 a1 a2 a3 r w hk

end Go.Proofs.Ytkganedlhcepfaa.Pr
