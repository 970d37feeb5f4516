-- Written by a program of the session (wip/tools) out of the translation, over the kit's print; with pieces of the session's own.
import Derived.Test.YtfnjohklmpiboaaGreatPr0
import Derived.Test.YtfnjohklmpiboaaGreatPr1
import Derived.Test.YtfnjohklmpiboaaGreatPr2
import Derived.Test.YtfnjohklmpiboaaGreatPr3
import Derived.Test.YtfnjohklmpiboaaGreatPr7
namespace Go.Proofs.YtfnjohklmpiboaaGreat.Pr
open Go.RowKit Go.Proofs.YtfnjohklmpiboaaGreatW.PrintWords Go.Proofs.YtfnjohklmpiboaaGreatW.PrintLast Go.Proofs.YtfnjohklmpiboaaGreatW.PrintMore
attribute [local go_sem] max2_int min2_int max_two min_two max_three min_three max_four min_four   -- for this text's walks alone
set_option linter.unusedVariables false
set_option linter.unusedSimpArgs false
open Go.Proofs.YtfnjohklmpiboaaGreat.Sp
/-! ### weighbridgeref08_Place_p: function 28 -/
def weighbridgeref08_Place_p.f (a0 : Int) : Option (Int × Bool) := if a0 = 6 then (some (16, true)) else (if a0 = 17 then (some (6, true)) else (some (0, false)))
set_option maxHeartbeats 8000000 in
set_option maxRecDepth 100000 in
theorem weighbridgeref08_Place_p.calls (a0 : Int) (r1 : Int) (r2 : Bool) (w : World) (h : weighbridgeref08_Place_p.f a0 = some (r1, r2)) :
  Calls Tryz.prog 28 #[.int .i64 a0] w fun e w' => e = .returned (.tuple #[.int .i64 r1, .bool r2]) ∧ Drawn0 w w' := by
 have H : (if a0 = 6 then (some (16, true)) else (if a0 = 17 then (some (6, true)) else (some (0, false)))) = some (r1, r2) := h
 clear h
 by_cases c2 : a0 = 6
 ·rw [if_pos c2] at H
  have c2b0 := BT c2
  have c2b1 := NF c2
  clear c2
  simp only [Option.some.injEq, Prod.mk.injEq] at H
  obtain ⟨rfl, rfl⟩ := H
  go_enter Tryz.func28, Tryz.ntmps28
  go_wp2
  go_ret2
  exact ⟨RS, DW⟩
 rw [if_neg c2] at H
 have c2b0 := BF c2
 have c2b1 := NT c2
 by_cases c3 : a0 = 17
 ·rw [if_pos c3] at H
  have c3b0 := BT c3
  have c3b1 := NF c3
  clear c3
  simp only [Option.some.injEq, Prod.mk.injEq] at H
  obtain ⟨rfl, rfl⟩ := H
  go_enter Tryz.func28, Tryz.ntmps28
  go_wp2
  go_ret2
  exact ⟨RS, DW⟩
 rw [if_neg c3] at H
 have c3b0 := BF c3
 have c3b1 := NT c3
 simp only [Option.some.injEq, Prod.mk.injEq] at H
 obtain ⟨rfl, rfl⟩ := H
 go_enter Tryz.func28, Tryz.ntmps28
 go_wp2
 go_ret2
 exact ⟨RS, DW⟩

def weighbridgeref08_Place.f (a0 : Int) : Option (Int × Bool) := some (Sp.place a0)
theorem weighbridgeref08_Place_ev (a0 : Int) (r : Int × Bool) (h : weighbridgeref08_Place.f a0 = some r) : weighbridgeref08_Place_p.f a0 = some r := by
 unfold weighbridgeref08_Place.f at h
 rw [← h]
 unfold weighbridgeref08_Place_p.f Sp.place
 by_cases h1 : a0 = 6
 ·rw [if_pos h1, if_pos h1]
 rw [if_neg h1, if_neg h1]
 by_cases h2 : a0 = 17
 ·rw [if_pos h2, if_pos h2]
 rw [if_neg h2, if_neg h2]
theorem weighbridgeref08_Place.calls (a0 : Int) (r1 : Int) (r2 : Bool) (w : World) (h : weighbridgeref08_Place.f a0 = some (r1, r2)) :
  Calls Tryz.prog 28 #[.int .i64 a0] w fun e w' => e = .returned (.tuple #[.int .i64 r1, .bool r2]) ∧ Drawn0 w w' := by
 have hk := weighbridgeref08_Place_ev a0 _ h
 exact weighbridgeref08_Place_p.calls a0 r1 r2 w hk

/-! ### weighbridgeref08_covered_p: function 75 -/
def weighbridgeref08_covered_p.f (a0 : Int) (a1 : ByteArray) : Option (ByteArray) := (weighbridgeref06_Size.f a1).bind fun bt169 => (if a0 = 17 then (if bt169.2 = true then (if 0 ≤ bt169.1 then (if bt169.1 ≤ (a1.size : Int) then (some (a1.extract 0 (bt169.1 : Int).toNat)) else (none)) else (none)) else (some a1)) else (some a1))
set_option maxHeartbeats 8000000 in
set_option maxRecDepth 100000 in
theorem weighbridgeref08_covered_p.calls (a0 : Int) (a1 : ByteArray) (r : ByteArray) (w : World) (h : weighbridgeref08_covered_p.f a0 a1 = some r) :
  Calls Tryz.prog 75 #[.int .i64 a0, .string a1] w fun e w' => e = .returned (.string r) ∧ Drawn0 w w' := by
 have H := h
 unfold weighbridgeref08_covered_p.f at H
 clear h
 replace H := OB H
 obtain ⟨⟨t169, t170⟩, A3, H⟩ := H
 (try set_option simprocs false in dsimp only at H)
 go_enter Tryz.func75, Tryz.ntmps75
 go_upto_region 2 with (first | ((with_reducible refine gkx 101 rfl ?_); refine gL 9 Tryz.func101 rfl (weighbridgeref06_Size.calls a1 t169 _ _ A3.out) ?_; rintro w' ⟨nd, rfl⟩))
 by_cases c4 : a0 = 17
 rotate_left
 ·rw [if_neg c4] at H
  have c4b0 := BF c4
  have c4b1 := NT c4
  obtain rfl := Option.some.inj H
  go_wp2_with (fail)
  go_ret
  exact ⟨RS, DW⟩
 rw [if_pos c4] at H
 have c4b0 := BT c4
 have c4b1 := NF c4
 clear c4
 by_cases c5 : t170 = true
 ·subst c5
  first | rw [if_pos rfl] at H | rw [if_pos trivial] at H
  by_cases c6 : 0 ≤ t169
  ·rw [if_pos c6] at H
   have c6b0 := eq_true c6
   have c6b1 := decide_eq_true c6
   clear c6
   by_cases c7 : t169 ≤ (a1.size : Int)
   ·rw [if_pos c7] at H
    have c7b0 := eq_true c7
    have c7b1 := decide_eq_true c7
    clear c7
    obtain rfl := Option.some.inj H
    go_wp2_with (fail)
    go_ret
    exact ⟨RS, DW⟩
   rw [if_neg c7] at H
   exact absurd H (by simp)
  rw [if_neg c6] at H
  exact absurd H (by simp)
 replace c5 := Bool.eq_false_iff.mpr c5
 subst c5
 replace H := IFN H
 obtain rfl := Option.some.inj H
 go_wp2_with (fail)
 go_ret
 exact ⟨RS, DW⟩

theorem r8_cov_lb (a0 : Int) (s : ByteArray) : (if a0 = 17 ∧ (Sp.udpSize (bl s)).2 = true then s.extract 0 (Sp.udpSize (bl s)).1.toNat else s) = lb (Sp.cov a0 (bl s)) := by
 unfold Sp.cov
 split
 ·exact Sp.bl_inj (by rw [Sp.bl_extract, bl_lb, List.drop_zero])
 rw [Sp.lb_bl]
theorem r8_udpSize_in (s : ByteArray) (h : (Sp.udpSize (bl s)).2 = true) : 0 ≤ (Sp.udpSize (bl s)).1 ∧ (Sp.udpSize (bl s)).1 ≤ s.size := by
 have hb := Sp.udpLen_bounds (bl s)
 unfold Sp.udpSize at h ⊢
 rw [bl_length] at h ⊢
 split at h
 case isTrue => cases h
 case isFalse h1 =>
  split at h
  case isTrue => cases h
  case isFalse h2 => rw [if_neg h1, if_neg h2]; exact ⟨hb.1, by show Sp.udpLen (bl s) ≤ _; omega⟩
def weighbridgeref08_covered.f (a0 : Int) (a1 : ByteArray) : Option ByteArray := if a1.size ≤ big01 then some (lb (Sp.cov a0 (bl a1))) else none
theorem weighbridgeref08_covered_eq {a0 : Int} {a1 : ByteArray} (h : a1.size ≤ 281474976710656) : weighbridgeref08_covered.f a0 a1 = some (lb (Sp.cov a0 (bl a1))) := by unfold weighbridgeref08_covered.f; exact if_pos h
theorem weighbridgeref08_covered_ev (a0 : Int) (a1 : ByteArray) (r : ByteArray) (h : weighbridgeref08_covered.f a0 a1 = some r) : weighbridgeref08_covered_p.f a0 a1 = some r := by
 unfold weighbridgeref08_covered.f at h
 split at h
 case isFalse => cases h
 case isTrue hs =>
  unfold big01 at hs
  rw [← h, ← r8_cov_lb]
  unfold weighbridgeref08_covered_p.f
  rw [weighbridgeref06_Size_eq hs, Option.bind_some]
  by_cases h1 : a0 = 17
  ·rw [if_pos h1]
   by_cases h2 : (Sp.udpSize (bl a1)).2 = true
   ·have hb := r8_udpSize_in a1 h2
    rw [if_pos h2, if_pos hb.1, if_pos hb.2, if_pos ⟨h1, h2⟩]
   rw [if_neg h2, if_neg (fun h => h2 h.2)]
  rw [if_neg h1, if_neg (fun h => h1 h.1)]
theorem weighbridgeref08_covered.calls (a0 : Int) (a1 : ByteArray) (r : ByteArray) (w : World) (h : weighbridgeref08_covered.f a0 a1 = some r) :
  Calls Tryz.prog 75 #[.int .i64 a0, .string a1] w fun e w' => e = .returned (.string r) ∧ Drawn0 w w' := by
 have hk := weighbridgeref08_covered_ev a0 a1 _ h
 exact weighbridgeref08_covered_p.calls a0 a1 r w hk

/-! ### weighbridgeref08_head_p: function 76 -/
def weighbridgeref08_head_p.f (a0 : Int) (a1 : Int) (a2 : Int) (a3 : Int) : Option (ByteArray) := (weighbridgeref04_Num.f 4 (wrap64 (a1))).bind fun t171 => ((weighbridgeref04_Num.f 4 (wrap64 (a2))).bind fun t172 => (if t171.size + t172.size ≤ 9223372036854775807 then (if (t171 ++ t172).size + 1 ≤ 9223372036854775807 then ((weighbridgeref04_Num.f 1 a0).bind fun t173 => (if ((t171 ++ t172) ++ (⟨#[0]⟩ : ByteArray)).size + t173.size ≤ 9223372036854775807 then ((weighbridgeref04_Num.f 2 (Int.tmod a3 65536)).bind fun t174 => (if (((t171 ++ t172) ++ (⟨#[0]⟩ : ByteArray)) ++ t173).size + t174.size ≤ 9223372036854775807 then (some ((((t171 ++ t172) ++ (⟨#[0]⟩ : ByteArray)) ++ t173) ++ t174)) else (none))) else (none))) else (none)) else (none)))
set_option maxHeartbeats 8000000 in
set_option maxRecDepth 100000 in
theorem weighbridgeref08_head_p.calls (a0 : Int) (a1 : Int) (a2 : Int) (a3 : Int) (r : ByteArray) (w : World) (h : weighbridgeref08_head_p.f a0 a1 a2 a3 = some r) :
  Calls Tryz.prog 76 #[.int .i64 a0, .int .u32 a1, .int .u32 a2, .int .i64 a3] w fun e w' => e = .returned (.string r) ∧ Below w.heap.size w w' := by
 have HB := AA (Below.refl w.heap.size w)
 have H := h
 unfold weighbridgeref08_head_p.f at H
 clear h
 replace H := OB H
 obtain ⟨t171, A5, H⟩ := H
 (try set_option simprocs false in dsimp only at H)
 replace H := OB H
 obtain ⟨t172, A6, H⟩ := H
 (try set_option simprocs false in dsimp only at H)
 replace H := IT H
 obtain ⟨c7, H⟩ := H
 have c7b0 := eq_true c7
 have c7b1 := decide_eq_true c7
 try have c7b2 := eq_false (Nat.not_lt.2 c7)
 replace H := IT H
 obtain ⟨c8, H⟩ := H
 have c8b0 := eq_true c8
 have c8b1 := decide_eq_true c8
 try have c8b2 := eq_false (Nat.not_lt.2 c8)
 (try (have c8r := c8; simp only [ByteArray.size_append, ByteArray.size_extract, Nat.sub_zero, Nat.min_self] at c8r; have c8rt := eq_true c8r; have c8ru := eq_false (Nat.not_lt.mpr c8r); clear c8r))
 (try (have c8s := c8; simp [c7b0] at c8s; have c8t := eq_true c8s; have c8u := eq_false (Nat.not_lt.mpr c8s); clear c8s))
 replace H := OB H
 obtain ⟨t173, A9, H⟩ := H
 (try set_option simprocs false in dsimp only at H)
 replace H := IT H
 obtain ⟨c10, H⟩ := H
 have c10b0 := eq_true c10
 have c10b1 := decide_eq_true c10
 try have c10b2 := eq_false (Nat.not_lt.2 c10)
 (try (have c10r := c10; simp only [ByteArray.size_append, ByteArray.size_extract, Nat.sub_zero, Nat.min_self] at c10r; (try rw [show (⟨#[0]⟩ : ByteArray).size = 1 from rfl] at c10r); have c10rt := eq_true c10r; have c10ru := eq_false (Nat.not_lt.mpr c10r); clear c10r))
 (try (have c10s := c10; simp [c7b0, c8b0] at c10s; have c10t := eq_true c10s; have c10u := eq_false (Nat.not_lt.mpr c10s); clear c10s))
 replace H := OB H
 obtain ⟨t174, A11, H⟩ := H
 (try set_option simprocs false in dsimp only at H)
 by_cases c12 : (((t171 ++ t172) ++ (⟨#[0]⟩ : ByteArray)) ++ t173).size + t174.size ≤ 9223372036854775807
 ·rw [if_pos c12] at H
  have c12b0 := eq_true c12
  have c12b1 := decide_eq_true c12
  try have c12b2 := eq_false (Nat.not_lt.2 c12)
  (try (have c12r := c12; simp only [ByteArray.size_append, ByteArray.size_extract, Nat.sub_zero, Nat.min_self] at c12r; (try rw [show (⟨#[0]⟩ : ByteArray).size = 1 from rfl] at c12r); have c12rt := eq_true c12r; have c12ru := eq_false (Nat.not_lt.mpr c12r); clear c12r))
  (try (have c12s := c12; simp [c7b0, c8b0, c10b0] at c12s; have c12t := eq_true c12s; have c12u := eq_false (Nat.not_lt.mpr c12s); clear c12s))
  obtain rfl := Option.some.inj H
  go_enter Tryz.func76, Tryz.ntmps76
  go_wp2_with (first | ((with_reducible refine gkx 34 rfl ?_); refine gL 11 Tryz.func34 rfl (weighbridgeref04_Num.calls 4 (wrap64 (a1)) t171 _ A5.out) ?_; rintro w13 hb; (try clear A5); replace HB := BS HB hb; (try clear hb)) | ((with_reducible refine gkx 34 rfl ?_); refine gL 14 Tryz.func34 rfl (weighbridgeref04_Num.calls 4 (wrap64 (a2)) t172 _ A6.out) ?_; rintro w14 hb; (try clear A6); replace HB := BS HB hb; (try clear hb)) | ((with_reducible refine gkx 34 rfl ?_); refine gL 18 Tryz.func34 rfl (weighbridgeref04_Num.calls 1 a0 t173 _ A9.out) ?_; rintro w15 hb; (try clear A9); replace HB := BS HB hb; (try clear hb)) | ((with_reducible refine gkx 34 rfl ?_); refine gL 22 Tryz.func34 rfl (weighbridgeref04_Num.calls 2 (Int.tmod a3 65536) t174 _ A11.out) ?_; rintro w16 hb; (try clear A11); replace HB := BS HB hb; (try clear hb)))
  go_ret
  exact ⟨RT, BW HB⟩
 rw [if_neg c12] at H
 exact absurd H (by simp)

def r32 (n : Int) : Bool := decide (0 ≤ n ∧ n ≤ 4294967295)
def weighbridgeref08_head.f (a0 a1 a2 a3 : Int) : Option ByteArray := if (Sp.place a0).2 = true ∧ r32 a1 = true ∧ r32 a2 = true ∧ r32 a3 = true then some (lb (Sp.phead a0 a1 a2 a3)) else none
theorem r32_iff {n : Int} : r32 n = true ↔ 0 ≤ n ∧ n ≤ 4294967295 := decide_eq_true_iff
theorem weighbridgeref08_head_eq {a0 a1 a2 a3 : Int} (hp : (Sp.place a0).2 = true) (h1 : 0 ≤ a1 ∧ a1 ≤ 4294967295) (h2 : 0 ≤ a2 ∧ a2 ≤ 4294967295) (h3 : 0 ≤ a3 ∧ a3 ≤ 4294967295) : weighbridgeref08_head.f a0 a1 a2 a3 = some (lb (Sp.phead a0 a1 a2 a3)) := by
 unfold weighbridgeref08_head.f; exact if_pos ⟨hp, r32_iff.2 h1, r32_iff.2 h2, r32_iff.2 h3⟩
theorem weighbridgeref08_head_ev (a0 a1 a2 a3 : Int) (r : ByteArray) (h : weighbridgeref08_head.f a0 a1 a2 a3 = some r) : weighbridgeref08_head_p.f a0 a1 a2 a3 = some r := by
 unfold weighbridgeref08_head.f at h
 split at h
 case isFalse => cases h
 case isTrue hs =>
  obtain ⟨hp, h1, h2, h3⟩ := hs
  have h1 := r32_iff.1 h1
  have h2 := r32_iff.1 h2
  have h3 := r32_iff.1 h3
  have hp' : 0 ≤ a0 ∧ a0 ≤ 255 := by
   rcases Sp.place_cases a0 with ⟨e, _⟩ | ⟨e, _⟩ | ⟨_, _, e⟩
   ·omega
   ·omega
   ·rw [e] at hp; cases hp
  have f4 : ∀ n : Int, 0 ≤ n ∧ n ≤ 4294967295 → Sp.fits 4 n = true := fun n h => Sp.fits_iff.2 ⟨by decide, by decide, h.1, by show n < 256 ^ 4; omega⟩
  have f1 : Sp.fits 1 a0 = true := Sp.fits_iff.2 ⟨by decide, by decide, hp'.1, by show a0 < 256 ^ 1; omega⟩
  rw [← h]
  unfold weighbridgeref08_head_p.f
  rw [Int.tmod_eq_emod_of_nonneg h3.1, r6_wrap (n := a1) (by omega) (by omega), r6_wrap (n := a2) (by omega) (by omega), weighbridgeref04_Num_yes (f4 a1 h1), Option.bind_some, weighbridgeref04_Num_yes (f4 a2 h2), Option.bind_some, weighbridgeref04_Num_yes f1,
   weighbridgeref04_Num_yes (Sp.fits2.2 (by omega))]
  rw [show (⟨#[0]⟩ : ByteArray) = lb [0] from rfl, Sp.lb_append, Sp.lb_append]
  rw [if_pos (by rw [lb_size, lb_size, Sp.beBytes_length, Sp.beBytes_length]; decide), if_pos (by rw [lb_size, List.length_append, Sp.beBytes_length, Sp.beBytes_length]; decide), Option.bind_some, if_pos (by rw [lb_size, lb_size, List.length_append, List.length_append, Sp.beBytes_length, Sp.beBytes_length, Sp.beBytes_length]; decide), Option.bind_some,
   Sp.lb_append, if_pos (by rw [lb_size, lb_size, List.length_append, List.length_append, List.length_append, Sp.beBytes_length, Sp.beBytes_length, Sp.beBytes_length, Sp.beBytes_length]; decide), Sp.lb_append]
  rfl
theorem weighbridgeref08_head.calls (a0 : Int) (a1 : Int) (a2 : Int) (a3 : Int) (r : ByteArray) (w : World) (h : weighbridgeref08_head.f a0 a1 a2 a3 = some r) :
  Calls Tryz.prog 76 #[.int .i64 a0, .int .u32 a1, .int .u32 a2, .int .i64 a3] w fun e w' => e = .returned (.string r) ∧ Below w.heap.size w w' := by
 have hk := weighbridgeref08_head_ev a0 a1 a2 a3 _ h
 exact weighbridgeref08_head_p.calls a0 a1 a2 a3 r w hk

/-! ### weighbridgeref08_Check_p: function 55 -/
def weighbridgeref08_Check_p.j0 : Nat → Int → Int → Int → ByteArray → ByteArray → Bool → Option (Int × Bool)
 | 0, _, _, _, _, _, _ => none
 | k + 1, x0, x1, x2, x12, x13, x35 => if x35 = true then (some (0, false)) else ((weighbridgeref08_head.f x0 x1 x2 (x12.size : Int)).bind fun t180 => (if t180.size + x13.size ≤ 9223372036854775807 then ((weighbridgeref03_Check.f (t180 ++ x13)).bind fun t181 => (if x0 = 17 then (if t181 = 0 then (some (65535, true)) else (some (t181, true))) else (some (t181, true)))) else (none)))
def weighbridgeref08_Check_p.f (k : Nat) (a0 : Int) (a1 : Int) (a2 : Int) (a3 : ByteArray) : Option (Int × Bool) := (weighbridgeref08_Place.f a0).bind fun bt175 => ((weighbridgeref08_covered.f a0 a3).bind fun t177 => ((weighbridgeref01_Set.f t177 bt175.1 2 0).bind fun bt178 => (if bt175.2 = true then (weighbridgeref08_Check_p.j0 k a0 a1 a2 t177 bt178.1 (!bt178.2)) else (weighbridgeref08_Check_p.j0 k a0 a1 a2 t177 bt178.1 true))))
theorem weighbridgeref08_Check_p.mono_l : ∀ k, (∀ y0 y1 y2 y3 y4 y5, LeO (weighbridgeref08_Check_p.j0 k y0 y1 y2 y3 y4 y5) (weighbridgeref08_Check_p.j0 (k + 1) y0 y1 y2 y3 y4 y5))
 | 0 => fun _ _ _ _ _ _ r h => by simp [weighbridgeref08_Check_p.j0] at h
 | k + 1 => by
  have ih0 := weighbridgeref08_Check_p.mono_l k
  ·intro y0 y1 y2 y3 y4 y5
   unfold weighbridgeref08_Check_p.j0
   repeat' first
   | (with_reducible exact ih0 _ _ _ _ _ _)
   | (with_reducible exact LeO.refl _)
   | (with_reducible exact LeO.none _)
   | (with_reducible refine LeO.ite ?_ ?_)
   | (with_reducible refine LeO.bind ?_ (fun _ => ?_))
   | exact ih0 _ _ _ _ _ _
   | exact LeO.none _
   | refine LeO.ite ?_ ?_
   | refine LeO.bind ?_ (fun _ => ?_)
theorem weighbridgeref08_Check_p.mono : ∀ a0 a1 a2 a3 k, LeO (weighbridgeref08_Check_p.f k a0 a1 a2 a3) (weighbridgeref08_Check_p.f (k + 1) a0 a1 a2 a3) := by
 intro a0 a1 a2 a3 k
 have ih0 := weighbridgeref08_Check_p.mono_l k
 unfold weighbridgeref08_Check_p.f
 repeat' first
   | (with_reducible exact ih0 _ _ _ _ _ _)
   | (with_reducible exact LeO.refl _)
   | (with_reducible exact LeO.none _)
   | (with_reducible refine LeO.ite ?_ ?_)
   | (with_reducible refine LeO.bind ?_ (fun _ => ?_))
   | exact ih0 _ _ _ _ _ _
   | exact LeO.none _
   | refine LeO.ite ?_ ?_
   | refine LeO.bind ?_ (fun _ => ?_)
set_option maxHeartbeats 8000000 in
set_option maxRecDepth 100000 in
theorem weighbridgeref08_Check_p.calls (k : Nat) (a0 : Int) (a1 : Int) (a2 : Int) (a3 : ByteArray) (r1 : Int) (r2 : Bool) (w : World) (h : weighbridgeref08_Check_p.f k a0 a1 a2 a3 = some (r1, r2)) :
  Calls Tryz.prog 55 #[.int .i64 a0, .int .u32 a1, .int .u32 a2, .string a3] w fun e w' => e = .returned (.tuple #[.int .u16 r1, .bool r2]) ∧ Below w.heap.size w w' := by
 have HB := AA (Below.refl w.heap.size w)
 have H := h
 unfold weighbridgeref08_Check_p.f at H
 clear h
 replace H := OB H
 obtain ⟨⟨t175, t176⟩, A5, H⟩ := H
 (try set_option simprocs false in dsimp only at H)
 replace H := OB H
 obtain ⟨t177, A6, H⟩ := H
 (try set_option simprocs false in dsimp only at H)
 replace H := OB H
 obtain ⟨⟨t178, t179⟩, A7, H⟩ := H
 (try set_option simprocs false in dsimp only at H)
 have HC8 := AA H
 clear H
 go_enter Tryz.func55, Tryz.ntmps55
 go_upto_region 4 with (first | ((with_reducible refine gkx 28 rfl ?_); refine gL 18 Tryz.func28 rfl (weighbridgeref08_Place.calls a0 t175 t176 _ A5.out) ?_; rintro w' ⟨nd, rfl⟩) | ((with_reducible refine gkx 75 rfl ?_); refine gL 23 Tryz.func75 rfl (weighbridgeref08_covered.calls a0 a3 t177 _ A6.out) ?_; rintro w' ⟨nd, rfl⟩) | ((with_reducible refine gkx 45 rfl ?_); refine gL 27 Tryz.func45 rfl (weighbridgeref01_Set.calls t177 t175 2 0 t178 t179 _ A7.out) ?_; rintro w9 hb; replace HB := BS HB hb; (try clear hb)))
 (try simp only [Act.put, List.setIfInBounds_toArray, List.set_cons_zero, List.set_cons_succ])
 go_cut [35] (fun v35 wc => ∃ (kq : Nat) (x35_7 : Bool), v35 = .bool x35_7 ∧ Aside0 (weighbridgeref08_Check_p.j0 kq a0 a1 a2 t177 t178 x35_7 = some (r1, r2)) ∧ Aside0 (kq ≤ k) ∧ Aside0 (Below w.heap.size w wc))
 case first =>
  have H := HC8.out
  clear HC8
  by_cases c10 : t176 = true
  ·subst c10
   first | rw [if_pos rfl] at H | rw [if_pos trivial] at H
   have H' := AA H
   clear H
   go_wp2
   go_meet
   case rel => exact ⟨_, (!t179), QS, H', LR, ⟨BW HB⟩⟩
  replace c10 := Bool.eq_false_iff.mpr c10
  subst c10
  replace H := IFN H
  have H' := AA H
  clear H
  go_wp2
  go_meet
  case rel => exact ⟨_, (true), QS, H', LR, ⟨BW HB⟩⟩
 case rest =>
  clear HC8
  try clear c1; try clear c2; try clear p2; try clear c4; try clear c5; try clear c7; try clear c10
  obtain ⟨kq, x35_7, rfl, HA, HJ7, HB⟩ := hcut
  cases kq with
  | zero => exact absurd HA.out (by simp [weighbridgeref08_Check_p.j0])
  | succ kj7 =>
   have H := HA.out
   clear HA
   simp only [weighbridgeref08_Check_p.j0] at H
   by_cases c11 : x35_7 = true
   ·subst c11
    first | rw [if_pos rfl] at H | rw [if_pos trivial] at H
    simp only [Option.some.injEq, Prod.mk.injEq] at H
    obtain ⟨rfl, rfl⟩ := H
    go_wp2
    go_ret2
    exact ⟨RT, BW HB⟩
   replace c11 := Bool.eq_false_iff.mpr c11
   subst c11
   replace H := IFN H
   replace H := OB H
   obtain ⟨t180, A12, H⟩ := H
   (try set_option simprocs false in dsimp only at H)
   replace H := IT H
   obtain ⟨c13, H⟩ := H
   have c13b0 := eq_true c13
   have c13b1 := decide_eq_true c13
   try have c13b2 := eq_false (Nat.not_lt.2 c13)
   replace H := OB H
   obtain ⟨t181, A14, H⟩ := H
   (try set_option simprocs false in dsimp only at H)
   by_cases c15 : a0 = 17
   ·rw [if_pos c15] at H
    have c15b0 := BT c15
    have c15b1 := NF c15
    clear c15
    by_cases c16 : t181 = 0
    ·rw [if_pos c16] at H
     have c16b0 := BT c16
     have c16b1 := NF c16
     clear c16
     simp only [Option.some.injEq, Prod.mk.injEq] at H
     obtain ⟨rfl, rfl⟩ := H
     go_wp2_with (first | ((with_reducible refine gkx 76 rfl ?_); refine gL 41 Tryz.func76 rfl (weighbridgeref08_head.calls a0 a1 a2 (t177.size : Int) t180 _ A12.out) ?_; rintro w17 hb; (try clear A12); replace HB := BS HB hb; (try clear hb)) | ((with_reducible refine gkx 31 rfl ?_); refine gL 44 Tryz.func31 rfl (weighbridgeref03_Check.calls (t180 ++ t178) t181 _ A14.out) ?_; rintro w18 hb; (try clear A14); replace HB := BS HB hb; (try clear hb)))
     go_ret2
     exact ⟨RT, BW HB⟩
    rw [if_neg c16] at H
    have c16b0 := BF c16
    have c16b1 := NT c16
    simp only [Option.some.injEq, Prod.mk.injEq] at H
    obtain ⟨rfl, rfl⟩ := H
    go_wp2_with (first | ((with_reducible refine gkx 76 rfl ?_); refine gL 41 Tryz.func76 rfl (weighbridgeref08_head.calls a0 a1 a2 (t177.size : Int) t180 _ A12.out) ?_; rintro w19 hb; (try clear A12); replace HB := BS HB hb; (try clear hb)) | ((with_reducible refine gkx 31 rfl ?_); refine gL 44 Tryz.func31 rfl (weighbridgeref03_Check.calls (t180 ++ t178) t181 _ A14.out) ?_; rintro w20 hb; (try clear A14); replace HB := BS HB hb; (try clear hb)))
    go_ret2
    exact ⟨RT, BW HB⟩
   rw [if_neg c15] at H
   have c15b0 := BF c15
   have c15b1 := NT c15
   simp only [Option.some.injEq, Prod.mk.injEq] at H
   obtain ⟨rfl, rfl⟩ := H
   go_wp2_with (first | ((with_reducible refine gkx 76 rfl ?_); refine gL 41 Tryz.func76 rfl (weighbridgeref08_head.calls a0 a1 a2 (t177.size : Int) t180 _ A12.out) ?_; rintro w21 hb; (try clear A12); replace HB := BS HB hb; (try clear hb)) | ((with_reducible refine gkx 31 rfl ?_); refine gL 44 Tryz.func31 rfl (weighbridgeref03_Check.calls (t180 ++ t178) t181 _ A14.out) ?_; rintro w22 hb; (try clear A14); replace HB := BS HB hb; (try clear hb)))
   go_ret2
   exact ⟨RT, BW HB⟩

def r8dom (p a b : Int) (s : ByteArray) : Bool := i64in p && r32 a && r32 b && decide (s.size ≤ 1000000)
theorem r8dom_iff {p a b : Int} {s : ByteArray} : r8dom p a b s = true ↔ (-9223372036854775808 ≤ p ∧ p ≤ 9223372036854775807) ∧ (0 ≤ a ∧ a ≤ 4294967295) ∧ (0 ≤ b ∧ b ≤ 4294967295) ∧ s.size ≤ 1000000 := by
 unfold r8dom i64in r32; simp [and_assoc]
def weighbridgeref08_Check.f (a0 a1 a2 : Int) (a3 : ByteArray) : Option (Int × Bool) := if r8dom a0 a1 a2 a3 = true then some (Sp.pcheck a0 a1 a2 (bl a3)) else none
theorem weighbridgeref08_Check_eq {a0 a1 a2 : Int} {a3 : ByteArray} (h0 : -9223372036854775808 ≤ a0 ∧ a0 ≤ 9223372036854775807) (h1 : 0 ≤ a1 ∧ a1 ≤ 4294967295) (h2 : 0 ≤ a2 ∧ a2 ≤ 4294967295) (h3 : a3.size ≤ 1000000) : weighbridgeref08_Check.f a0 a1 a2 a3 = some (Sp.pcheck a0 a1 a2 (bl a3)) := by
 unfold weighbridgeref08_Check.f; exact if_pos (r8dom_iff.2 ⟨h0, h1, h2, h3⟩)
theorem weighbridgeref08_Check_ev (a0 a1 a2 : Int) (a3 : ByteArray) (r : Int × Bool) (h : weighbridgeref08_Check.f a0 a1 a2 a3 = some r) : ∃ k, weighbridgeref08_Check_p.f k a0 a1 a2 a3 = some r := by
 unfold weighbridgeref08_Check.f at h
 split at h
 case isFalse => cases h
 case isTrue hs =>
  obtain ⟨h0, h1, h2, h3⟩ := r8dom_iff.1 hs
  have hcl := Sp.cov_length a0 (bl a3)
  rw [bl_length] at hcl
  rw [← h]
  refine ⟨1, ?_⟩
  unfold weighbridgeref08_Check_p.f Sp.pcheck weighbridgeref08_Place.f
  rw [Option.bind_some, weighbridgeref08_covered_eq (by omega), Option.bind_some, weighbridgeref01_Set_eq _ _ _ _ (by rw [lb_size]; omega) (by decide) (by decide), Option.bind_some, bl_lb, show Sp.set (Sp.cov a0 (bl a3)) (Sp.place a0).1 2 0 = Sp.zeroed a0 (bl a3) from rfl]
  simp only [weighbridgeref08_Check_p.j0]
  by_cases hp : (Sp.place a0).2 = true
  rotate_left
  ·rw [if_neg hp, if_pos trivial, if_neg (fun h => hp h.1)]
  rw [if_pos hp]
  by_cases hz : (Sp.zeroed a0 (bl a3)).2 = true
  rotate_left
  ·have hz' : (!((lb (Sp.zeroed a0 (bl a3)).1, (Sp.zeroed a0 (bl a3)).2) : ByteArray × Bool).2) = true := by show (!(Sp.zeroed a0 (bl a3)).2) = true; rw [Sp.bool_no hz]; rfl
   rw [if_pos hz', if_neg (fun h => hz h.2)]
  have hzl : (Sp.zeroed a0 (bl a3)).1.length = (Sp.cov a0 (bl a3)).length := Sp.set_length _ _ _ _ hz
  have hb := Sp.psum_bounds (s := (Sp.zeroed a0 (bl a3)).1) hp h1 h2
  rw [if_neg (by show ¬ (!(Sp.zeroed a0 (bl a3)).2) = true; rw [hz]; decide), if_pos ⟨hp, hz⟩, weighbridgeref08_head_eq hp h1 h2 (by rw [lb_size]; omega), Option.bind_some]
  show (if (lb _).size + (lb (Sp.zeroed a0 (bl a3)).1).size ≤ _ then _ else _) = _
  rw [if_pos (by rw [lb_size (Sp.phead _ _ _ _), lb_size (Sp.zeroed a0 (bl a3)).1, Sp.phead_length]; omega)]
  show (weighbridgeref03_Check.f (lb _ ++ lb (Sp.zeroed a0 (bl a3)).1)).bind _ = _
  rw [Sp.lb_append, weighbridgeref03_Check_eq (by rw [lb_size, List.length_append, Sp.phead_length]; omega), Option.bind_some, bl_lb]
  have e : Sp.check (Sp.phead a0 a1 a2 ((lb (Sp.cov a0 (bl a3))).size : Int) ++ (Sp.zeroed a0 (bl a3)).1) = 65535 - Sp.psum a0 a1 a2 (Sp.zeroed a0 (bl a3)).1 := by
   unfold Sp.check
   rw [Sp.phead_psum (by rw [lb_size, hzl]) hp h1 h2]
  rw [e]
  unfold Sp.pnum
  by_cases e1 : a0 = 17
  ·rw [if_pos e1]
   by_cases e2 : 65535 - Sp.psum a0 a1 a2 (Sp.zeroed a0 (bl a3)).1 = 0
   ·rw [if_pos e2, if_pos ⟨e1, e2⟩]
   rw [if_neg e2, if_neg (fun h => e2 h.2)]
  rw [if_neg e1, if_neg (fun h => e1 h.1)]
theorem weighbridgeref08_Check.calls (a0 : Int) (a1 : Int) (a2 : Int) (a3 : ByteArray) (r1 : Int) (r2 : Bool) (w : World) (h : weighbridgeref08_Check.f a0 a1 a2 a3 = some (r1, r2)) :
  Calls Tryz.prog 55 #[.int .i64 a0, .int .u32 a1, .int .u32 a2, .string a3] w fun e w' => e = .returned (.tuple #[.int .u16 r1, .bool r2]) ∧ Below w.heap.size w w' := by
 obtain ⟨k, hk⟩ := weighbridgeref08_Check_ev a0 a1 a2 a3 _ h
 exact weighbridgeref08_Check_p.calls k a0 a1 a2 a3 r1 r2 w hk

/-! ### weighbridgeref08_Fill_p: function 36 -/
def weighbridgeref08_Fill_p.f (a0 : Int) (a1 : Int) (a2 : Int) (a3 : ByteArray) : Option (ByteArray × Bool) := (weighbridgeref08_Check.f a0 a1 a2 a3).bind fun bt182 => (if bt182.2 = true then ((weighbridgeref08_Place.f a0).bind fun bt184 => ((weighbridgeref01_Set.f a3 bt184.1 2 (wrap64 (bt182.1))).bind fun bt186 => (some (bt186.1, bt186.2)))) else (some ((⟨#[]⟩ : ByteArray), false)))
set_option maxHeartbeats 8000000 in
set_option maxRecDepth 100000 in
theorem weighbridgeref08_Fill_p.calls (a0 : Int) (a1 : Int) (a2 : Int) (a3 : ByteArray) (r1 : ByteArray) (r2 : Bool) (w : World) (h : weighbridgeref08_Fill_p.f a0 a1 a2 a3 = some (r1, r2)) :
  Calls Tryz.prog 36 #[.int .i64 a0, .int .u32 a1, .int .u32 a2, .string a3] w fun e w' => e = .returned (.tuple #[.string r1, .bool r2]) ∧ Below w.heap.size w w' := by
 have HB := AA (Below.refl w.heap.size w)
 have H := h
 unfold weighbridgeref08_Fill_p.f at H
 clear h
 replace H := OB H
 obtain ⟨⟨t182, t183⟩, A5, H⟩ := H
 (try set_option simprocs false in dsimp only at H)
 go_enter Tryz.func36, Tryz.ntmps36
 go_upto_if 23 with (first | ((with_reducible refine gkx 55 rfl ?_); refine gL 19 Tryz.func55 rfl (weighbridgeref08_Check.calls a0 a1 a2 a3 t182 _ _ A5.out) ?_; rintro w9 hb; (try clear A5); replace HB := BS HB hb; (try clear hb)))
 by_cases c6 : t183 = true
 ·subst c6
  first | rw [if_pos rfl] at H | rw [if_pos trivial] at H
  replace H := OB H
  obtain ⟨⟨t184, t185⟩, A7, H⟩ := H
  (try set_option simprocs false in dsimp only at H)
  replace H := OB H
  obtain ⟨⟨t186, t187⟩, A8, H⟩ := H
  (try set_option simprocs false in dsimp only at H)
  simp only [Option.some.injEq, Prod.mk.injEq] at H
  obtain ⟨rfl, rfl⟩ := H
  go_wp2_with (first | ((with_reducible refine gkx 28 rfl ?_); refine gL 26 Tryz.func28 rfl (weighbridgeref08_Place.calls a0 t184 t185 _ A7.out) ?_; rintro w' ⟨nd, rfl⟩) | ((with_reducible refine gkx 45 rfl ?_); refine gL 33 Tryz.func45 rfl (weighbridgeref01_Set.calls a3 t184 2 (wrap64 (t182)) t186 t187 _ A8.out) ?_; rintro w10 hb; (try clear A8); replace HB := BS HB hb; (try clear hb)))
  go_ret2
  exact ⟨RT, BW HB⟩
 replace c6 := Bool.eq_false_iff.mpr c6
 subst c6
 replace H := IFN H
 simp only [Option.some.injEq, Prod.mk.injEq] at H
 obtain ⟨rfl, rfl⟩ := H
 go_wp2_with (fail)
 go_ret2
 exact ⟨RT, BW HB⟩

def weighbridgeref08_Fill.f (a0 a1 a2 : Int) (a3 : ByteArray) : Option (ByteArray × Bool) := if r8dom a0 a1 a2 a3 = true then some (lb (Sp.pfill a0 a1 a2 (bl a3)).1, (Sp.pfill a0 a1 a2 (bl a3)).2) else none
theorem weighbridgeref08_Fill_eq {a0 a1 a2 : Int} {a3 : ByteArray} (h0 : -9223372036854775808 ≤ a0 ∧ a0 ≤ 9223372036854775807) (h1 : 0 ≤ a1 ∧ a1 ≤ 4294967295) (h2 : 0 ≤ a2 ∧ a2 ≤ 4294967295) (h3 : a3.size ≤ 1000000) : weighbridgeref08_Fill.f a0 a1 a2 a3 = some (lb (Sp.pfill a0 a1 a2 (bl a3)).1, (Sp.pfill a0 a1 a2 (bl a3)).2) := by
 unfold weighbridgeref08_Fill.f; exact if_pos (r8dom_iff.2 ⟨h0, h1, h2, h3⟩)
theorem weighbridgeref08_Fill_ev (a0 a1 a2 : Int) (a3 : ByteArray) (r : ByteArray × Bool) (h : weighbridgeref08_Fill.f a0 a1 a2 a3 = some r) : weighbridgeref08_Fill_p.f a0 a1 a2 a3 = some r := by
 unfold weighbridgeref08_Fill.f at h
 split at h
 case isFalse => cases h
 case isTrue hs =>
  obtain ⟨h0, h1, h2, h3⟩ := r8dom_iff.1 hs
  have hb := Sp.pcheck_bounds (p := a0) (s := bl a3) h1 h2
  rw [← h]
  unfold weighbridgeref08_Fill_p.f Sp.pfill weighbridgeref08_Place.f
  rw [weighbridgeref08_Check_eq h0 h1 h2 h3, Option.bind_some]
  by_cases hc : (Sp.pcheck a0 a1 a2 (bl a3)).2 = true
  ·rw [if_pos hc, if_pos hc, Option.bind_some, r6_wrap (by omega) (by omega), weighbridgeref01_Set_eq _ _ _ _ (by omega) (by omega) (by omega), Option.bind_some]
  rw [if_neg hc, if_neg hc]; rfl
theorem weighbridgeref08_Fill.calls (a0 : Int) (a1 : Int) (a2 : Int) (a3 : ByteArray) (r1 : ByteArray) (r2 : Bool) (w : World) (h : weighbridgeref08_Fill.f a0 a1 a2 a3 = some (r1, r2)) :
  Calls Tryz.prog 36 #[.int .i64 a0, .int .u32 a1, .int .u32 a2, .string a3] w fun e w' => e = .returned (.tuple #[.string r1, .bool r2]) ∧ Below w.heap.size w w' := by
 have hk := weighbridgeref08_Fill_ev a0 a1 a2 a3 _ h
 exact weighbridgeref08_Fill_p.calls a0 a1 a2 a3 r1 r2 w hk

/-! ### weighbridgeref08_Verify_p: function 70 -/
def weighbridgeref08_Verify_p.f (a0 : Int) (a1 : Int) (a2 : Int) (a3 : ByteArray) : Option (Int) := (weighbridgeref08_Place.f a0).bind fun bt368 => (if bt368.2 = true then ((weighbridgeref08_Check.f a0 a1 a2 a3).bind fun bt370 => (if bt370.2 = true then ((weighbridgeref01_Get.f a3 bt368.1 2).bind fun bt372 => ((weighbridgeref08_covered.f a0 a3).bind fun t374 => (if a0 = 17 then (if bt372.1 = 0 then (some 0) else ((weighbridgeref08_head.f a0 a1 a2 (t374.size : Int)).bind fun t375 => (if t375.size + t374.size ≤ 9223372036854775807 then ((weighbridgeref03_Sum.f (t375 ++ t374)).bind fun t376 => (if t376 = 65535 then (some 0) else (some 7))) else (none)))) else ((weighbridgeref08_head.f a0 a1 a2 (t374.size : Int)).bind fun t377 => (if t377.size + t374.size ≤ 9223372036854775807 then ((weighbridgeref03_Sum.f (t377 ++ t374)).bind fun t378 => (if t378 = 65535 then (some 0) else (some 7))) else (none)))))) else (some 2))) else (some 9))
set_option maxHeartbeats 8000000 in
set_option maxRecDepth 100000 in
theorem weighbridgeref08_Verify_p.calls (a0 : Int) (a1 : Int) (a2 : Int) (a3 : ByteArray) (r : Int) (w : World) (h : weighbridgeref08_Verify_p.f a0 a1 a2 a3 = some r) :
  Calls Tryz.prog 70 #[.int .i64 a0, .int .u32 a1, .int .u32 a2, .string a3] w fun e w' => e = .returned (.int .i64 r) ∧ Below w.heap.size w w' := by
 have HB := AA (Below.refl w.heap.size w)
 have H := h
 unfold weighbridgeref08_Verify_p.f at H
 clear h
 replace H := OB H
 obtain ⟨⟨t368, t369⟩, A5, H⟩ := H
 (try set_option simprocs false in dsimp only at H)
 go_enter Tryz.func70, Tryz.ntmps70
 go_upto_if 22 with (first | ((with_reducible refine gkx 28 rfl ?_); refine gL 18 Tryz.func28 rfl (weighbridgeref08_Place.calls a0 t368 _ _ A5.out) ?_; rintro w' ⟨nd, rfl⟩))
 by_cases c6 : t369 = true
 rotate_left
 ·replace c6 := Bool.eq_false_iff.mpr c6
  subst c6
  replace H := IFN H
  obtain rfl := Option.some.inj H
  go_wp2_with (fail)
  go_ret
  exact ⟨RT, BW HB⟩
 subst c6
 first | rw [if_pos rfl] at H | rw [if_pos trivial] at H
 replace H := OB H
 obtain ⟨⟨t370, t371⟩, A7, H⟩ := H
 (try set_option simprocs false in dsimp only at H)
 by_cases c8 : t371 = true
 rotate_left
 ·replace c8 := Bool.eq_false_iff.mpr c8
  subst c8
  replace H := IFN H
  obtain rfl := Option.some.inj H
  go_wp2_with (first | ((with_reducible refine gkx 55 rfl ?_); refine gL 28 Tryz.func55 rfl (weighbridgeref08_Check.calls a0 a1 a2 a3 t370 false _ A7.out) ?_; rintro w34 hb; (try clear A7); replace HB := BS HB hb; (try clear hb)))
  go_ret
  exact ⟨RT, BW HB⟩
 subst c8
 first | rw [if_pos rfl] at H | rw [if_pos trivial] at H
 replace H := OB H
 obtain ⟨⟨t372, t373⟩, A9, H⟩ := H
 (try set_option simprocs false in dsimp only at H)
 replace H := OB H
 obtain ⟨t374, A10, H⟩ := H
 (try set_option simprocs false in dsimp only at H)
 by_cases c11 : a0 = 17
 ·rw [if_pos c11] at H
  have c11b0 := BT c11
  have c11b1 := NF c11
  clear c11
  by_cases c12 : t372 = 0
  ·rw [if_pos c12] at H
   have c12b0 := BT c12
   have c12b1 := NF c12
   clear c12
   obtain rfl := Option.some.inj H
   go_wp2_with (first | ((with_reducible refine gkx 55 rfl ?_); refine gL 28 Tryz.func55 rfl (weighbridgeref08_Check.calls a0 a1 a2 a3 t370 true _ A7.out) ?_; rintro w13 hb; (try clear A7); replace HB := BS HB hb; (try clear hb)) | ((with_reducible refine gkx 29 rfl ?_); refine gL 36 Tryz.func29 rfl (weighbridgeref01_Get.calls a3 t368 2 t372 t373 _ A9.out) ?_; rintro w' ⟨nd, rfl⟩) | ((with_reducible refine gkx 75 rfl ?_); refine gL 41 Tryz.func75 rfl (weighbridgeref08_covered.calls a0 a3 t374 _ A10.out) ?_; rintro w' ⟨nd, rfl⟩))
   go_ret
   exact ⟨RT, BW HB⟩
  rw [if_neg c12] at H
  have c12b0 := BF c12
  have c12b1 := NT c12
  replace H := OB H
  obtain ⟨t375, A14, H⟩ := H
  (try set_option simprocs false in dsimp only at H)
  replace H := IT H
  obtain ⟨c15, H⟩ := H
  have c15b0 := eq_true c15
  have c15b1 := decide_eq_true c15
  try have c15b2 := eq_false (Nat.not_lt.2 c15)
  replace H := OB H
  obtain ⟨t376, A16, H⟩ := H
  (try set_option simprocs false in dsimp only at H)
  by_cases c17 : t376 = 65535
  ·rw [if_pos c17] at H
   have c17b0 := BT c17
   have c17b1 := NF c17
   clear c17
   obtain rfl := Option.some.inj H
   go_wp2_with (first | ((with_reducible refine gkx 55 rfl ?_); refine gL 28 Tryz.func55 rfl (weighbridgeref08_Check.calls a0 a1 a2 a3 t370 true _ A7.out) ?_; rintro w18 hb; (try clear A7); replace HB := BS HB hb; (try clear hb)) | ((with_reducible refine gkx 29 rfl ?_); refine gL 36 Tryz.func29 rfl (weighbridgeref01_Get.calls a3 t368 2 t372 t373 _ A9.out) ?_; rintro w' ⟨nd, rfl⟩) | ((with_reducible refine gkx 75 rfl ?_); refine gL 41 Tryz.func75 rfl (weighbridgeref08_covered.calls a0 a3 t374 _ A10.out) ?_; rintro w' ⟨nd, rfl⟩) | (go_at_call 76; (with_reducible refine (weighbridgeref08_head.calls a0 a1 a2 (t374.size : Int) t375 _ A14.out).mono ?_); rintro e w19 ⟨rfl, hb⟩; (try clear A14); replace HB := BS HB hb; (try clear hb)) | (go_at_call 48; (with_reducible refine (weighbridgeref03_Sum.calls (t375 ++ t374) t376 _ A16.out).mono ?_); rintro e w20 ⟨rfl, hb⟩; (try clear A16); replace HB := BS HB hb; (try clear hb)))
   go_ret
   exact ⟨RT, BW HB⟩
  rw [if_neg c17] at H
  have c17b0 := BF c17
  have c17b1 := NT c17
  obtain rfl := Option.some.inj H
  go_wp2_with (first | ((with_reducible refine gkx 55 rfl ?_); refine gL 28 Tryz.func55 rfl (weighbridgeref08_Check.calls a0 a1 a2 a3 t370 true _ A7.out) ?_; rintro w21 hb; (try clear A7); replace HB := BS HB hb; (try clear hb)) | ((with_reducible refine gkx 29 rfl ?_); refine gL 36 Tryz.func29 rfl (weighbridgeref01_Get.calls a3 t368 2 t372 t373 _ A9.out) ?_; rintro w' ⟨nd, rfl⟩) | ((with_reducible refine gkx 75 rfl ?_); refine gL 41 Tryz.func75 rfl (weighbridgeref08_covered.calls a0 a3 t374 _ A10.out) ?_; rintro w' ⟨nd, rfl⟩) | (go_at_call 76; (with_reducible refine (weighbridgeref08_head.calls a0 a1 a2 (t374.size : Int) t375 _ A14.out).mono ?_); rintro e w22 ⟨rfl, hb⟩; (try clear A14); replace HB := BS HB hb; (try clear hb)) | (go_at_call 48; (with_reducible refine (weighbridgeref03_Sum.calls (t375 ++ t374) t376 _ A16.out).mono ?_); rintro e w23 ⟨rfl, hb⟩; (try clear A16); replace HB := BS HB hb; (try clear hb)))
  go_ret
  exact ⟨RT, BW HB⟩
 rw [if_neg c11] at H
 have c11b0 := BF c11
 have c11b1 := NT c11
 replace H := OB H
 obtain ⟨t377, A24, H⟩ := H
 (try set_option simprocs false in dsimp only at H)
 replace H := IT H
 obtain ⟨c25, H⟩ := H
 have c25b0 := eq_true c25
 have c25b1 := decide_eq_true c25
 try have c25b2 := eq_false (Nat.not_lt.2 c25)
 replace H := OB H
 obtain ⟨t378, A26, H⟩ := H
 (try set_option simprocs false in dsimp only at H)
 by_cases c27 : t378 = 65535
 ·rw [if_pos c27] at H
  have c27b0 := BT c27
  have c27b1 := NF c27
  clear c27
  obtain rfl := Option.some.inj H
  go_wp2_with (first | ((with_reducible refine gkx 55 rfl ?_); refine gL 28 Tryz.func55 rfl (weighbridgeref08_Check.calls a0 a1 a2 a3 t370 true _ A7.out) ?_; rintro w28 hb; (try clear A7); replace HB := BS HB hb; (try clear hb)) | ((with_reducible refine gkx 29 rfl ?_); refine gL 36 Tryz.func29 rfl (weighbridgeref01_Get.calls a3 t368 2 t372 t373 _ A9.out) ?_; rintro w' ⟨nd, rfl⟩) | ((with_reducible refine gkx 75 rfl ?_); refine gL 41 Tryz.func75 rfl (weighbridgeref08_covered.calls a0 a3 t374 _ A10.out) ?_; rintro w' ⟨nd, rfl⟩) | (go_at_call 76; (with_reducible refine (weighbridgeref08_head.calls a0 a1 a2 (t374.size : Int) t377 _ A24.out).mono ?_); rintro e w29 ⟨rfl, hb⟩; (try clear A24); replace HB := BS HB hb; (try clear hb)) | (go_at_call 48; (with_reducible refine (weighbridgeref03_Sum.calls (t377 ++ t374) t378 _ A26.out).mono ?_); rintro e w30 ⟨rfl, hb⟩; (try clear A26); replace HB := BS HB hb; (try clear hb)))
  go_ret
  exact ⟨RT, BW HB⟩
 rw [if_neg c27] at H
 have c27b0 := BF c27
 have c27b1 := NT c27
 obtain rfl := Option.some.inj H
 go_wp2_with (first | ((with_reducible refine gkx 55 rfl ?_); refine gL 28 Tryz.func55 rfl (weighbridgeref08_Check.calls a0 a1 a2 a3 t370 true _ A7.out) ?_; rintro w31 hb; (try clear A7); replace HB := BS HB hb; (try clear hb)) | ((with_reducible refine gkx 29 rfl ?_); refine gL 36 Tryz.func29 rfl (weighbridgeref01_Get.calls a3 t368 2 t372 t373 _ A9.out) ?_; rintro w' ⟨nd, rfl⟩) | ((with_reducible refine gkx 75 rfl ?_); refine gL 41 Tryz.func75 rfl (weighbridgeref08_covered.calls a0 a3 t374 _ A10.out) ?_; rintro w' ⟨nd, rfl⟩) | (go_at_call 76; (with_reducible refine (weighbridgeref08_head.calls a0 a1 a2 (t374.size : Int) t377 _ A24.out).mono ?_); rintro e w32 ⟨rfl, hb⟩; (try clear A24); replace HB := BS HB hb; (try clear hb)) | (go_at_call 48; (with_reducible refine (weighbridgeref03_Sum.calls (t377 ++ t374) t378 _ A26.out).mono ?_); rintro e w33 ⟨rfl, hb⟩; (try clear A26); replace HB := BS HB hb; (try clear hb)))
 go_ret
 exact ⟨RT, BW HB⟩

def weighbridgeref08_Verify.f (a0 a1 a2 : Int) (a3 : ByteArray) : Option Int := if r8dom a0 a1 a2 a3 = true then some (Sp.pverify a0 a1 a2 (bl a3)) else none
theorem weighbridgeref08_Verify_eq {a0 a1 a2 : Int} {a3 : ByteArray} (h0 : -9223372036854775808 ≤ a0 ∧ a0 ≤ 9223372036854775807) (h1 : 0 ≤ a1 ∧ a1 ≤ 4294967295) (h2 : 0 ≤ a2 ∧ a2 ≤ 4294967295) (h3 : a3.size ≤ 1000000) : weighbridgeref08_Verify.f a0 a1 a2 a3 = some (Sp.pverify a0 a1 a2 (bl a3)) := by
 unfold weighbridgeref08_Verify.f; exact if_pos (r8dom_iff.2 ⟨h0, h1, h2, h3⟩)
theorem weighbridgeref08_Verify_ev (a0 a1 a2 : Int) (a3 : ByteArray) (r : Int) (h : weighbridgeref08_Verify.f a0 a1 a2 a3 = some r) : weighbridgeref08_Verify_p.f a0 a1 a2 a3 = some r := by
 unfold weighbridgeref08_Verify.f at h
 split at h
 case isFalse => cases h
 case isTrue hs =>
  obtain ⟨h0, h1, h2, h3⟩ := r8dom_iff.1 hs
  have hcl := Sp.cov_length a0 (bl a3)
  rw [bl_length] at hcl
  rw [← h]
  unfold weighbridgeref08_Verify_p.f Sp.pverify weighbridgeref08_Place.f
  rw [Option.bind_some]
  by_cases hp : (Sp.place a0).2 = true
  rotate_left
  ·rw [if_neg hp, if_neg hp]
  rw [if_pos hp, if_pos hp, weighbridgeref08_Check_eq h0 h1 h2 h3, Option.bind_some]
  by_cases hc : (Sp.pcheck a0 a1 a2 (bl a3)).2 = true
  ·have hsz : (lb (Sp.phead a0 a1 a2 ((lb (Sp.cov a0 (bl a3))).size : Int))).size + (lb (Sp.cov a0 (bl a3))).size ≤ 9223372036854775807 := by
    rw [lb_size (Sp.phead _ _ _ _), Sp.phead_length, lb_size]; omega
   rw [if_pos hc, if_pos hc, weighbridgeref01_Get_eq _ _ _ (by omega), Option.bind_some, weighbridgeref08_covered_eq (by omega), Option.bind_some, weighbridgeref08_head_eq hp h1 h2 (by rw [lb_size]; omega), Option.bind_some,
    if_pos hsz, Sp.lb_append, weighbridgeref03_Sum_eq (by rw [lb_size, List.length_append, Sp.phead_length]; omega), Option.bind_some, bl_lb, Sp.phead_psum (by rw [lb_size]) hp h1 h2]
   by_cases e1 : a0 = 17
   ·rw [if_pos e1]
    by_cases e2 : (Sp.get (bl a3) (Sp.place a0).1 2).1 = 0
    ·rw [if_pos e2, if_pos (Or.inl ⟨e1, e2⟩)]
    rw [if_neg e2]
    by_cases e3 : Sp.psum a0 a1 a2 (Sp.cov a0 (bl a3)) = 65535
    ·rw [if_pos e3, if_pos (Or.inr e3)]
    rw [if_neg e3, if_neg (fun h => h.elim (fun h => e2 h.2) e3)]
   rw [if_neg e1]
   by_cases e3 : Sp.psum a0 a1 a2 (Sp.cov a0 (bl a3)) = 65535
   ·rw [if_pos e3, if_pos (Or.inr e3)]
   rw [if_neg e3, if_neg (fun h => h.elim (fun h => e1 h.1) e3)]
  rw [if_neg hc, if_neg hc]

theorem weighbridgeref08_Verify.calls (a0 : Int) (a1 : Int) (a2 : Int) (a3 : ByteArray) (r : Int) (w : World) (h : weighbridgeref08_Verify.f a0 a1 a2 a3 = some r) :
  Calls Tryz.prog 70 #[.int .i64 a0, .int .u32 a1, .int .u32 a2, .string a3] w fun e w' => e = .returned (.int .i64 r) ∧ Below w.heap.size w w' := by
 have hk := weighbridgeref08_Verify_ev a0 a1 a2 a3 _ h
 exact weighbridgeref08_Verify_p.calls a0 a1 a2 a3 r w hk

end Go.Proofs.YtfnjohklmpiboaaGreat.Pr
