-- trimmed by trims.py
-- Written by a program of the session (wip/tools) out of the translation, over the kit's print; with pieces of the session's own.
import Derived.Test.YtfnjohklmpiboaaGreatPr0
import Derived.Test.YtfnjohklmpiboaaGreatPr10
import Derived.Test.YtfnjohklmpiboaaGreatPr12
namespace Go.Proofs.YtfnjohklmpiboaaGreat.Pr
open Go.RowKit Go.Proofs.YtfnjohklmpiboaaGreatW.PrintWords Go.Proofs.YtfnjohklmpiboaaGreatW.PrintLast Go.Proofs.YtfnjohklmpiboaaGreatW.PrintMore
attribute [local go_sem] max2_int min2_int max_two min_two max_three min_three max_four min_four   -- for this text's walks alone
set_option linter.unusedVariables false
set_option linter.unusedSimpArgs false
open Go.Proofs.YtfnjohklmpiboaaGreat.Sp
/-! ### ip4_sizes_p: function 77 -/
mutual
def ip4_sizes_p.j0 : Nat → ByteArray → Int → Int → Bool → Option (Int × Int × Int)
 | 0, _, _, _, _ => none
 | k + 1, x0, x2, x3, x25 => if x25 = true then (some (0, 0, 4)) else (if x3 < x2 then (ip4_sizes_p.j1 k x2 x3 true) else (ip4_sizes_p.j1 k x2 x3 (decide (x3 > (x0.size : Int)))))
def ip4_sizes_p.j1 : Nat → Int → Int → Bool → Option (Int × Int × Int)
 | 0, _, _, _ => none
 | k + 1, x2, x3, x34 => if x34 = true then (some (0, 0, 5)) else (if x3 > 1500 then (some (0, 0, 18)) else (some (x2, x3, 0)))
end
def ip4_sizes_p.f (k : Nat) (a0 : ByteArray) : Option (Int × Int × Int) := if (a0.size : Int) < 20 then (some (0, 0, 2)) else (if 0 < (a0.size : Int) then ((octet_Get.f a0 2 2).bind fun bt263 => (if ((bt a0 0) / 16) = 4 then (if (wrap64 ((wrap64 (Go.bits .and .u8 (bt a0 0) 15)) * 4)) < 20 then (ip4_sizes_p.j0 k a0 (wrap64 ((wrap64 (Go.bits .and .u8 (bt a0 0) 15)) * 4)) bt263.1 true) else (ip4_sizes_p.j0 k a0 (wrap64 ((wrap64 (Go.bits .and .u8 (bt a0 0) 15)) * 4)) bt263.1 (decide ((wrap64 ((wrap64 (Go.bits .and .u8 (bt a0 0) 15)) * 4)) > (a0.size : Int))))) else (some (0, 0, 3)))) else (none))
theorem ip4_sizes_p.mono_l : ∀ k, (∀ y0 y1 y2 y3, LeO (ip4_sizes_p.j0 k y0 y1 y2 y3) (ip4_sizes_p.j0 (k + 1) y0 y1 y2 y3)) ∧ (∀ y0 y1 y2, LeO (ip4_sizes_p.j1 k y0 y1 y2) (ip4_sizes_p.j1 (k + 1) y0 y1 y2))
 | 0 => ⟨fun _ _ _ _ r h => by simp [ip4_sizes_p.j0] at h, fun _ _ _ r h => by simp [ip4_sizes_p.j1] at h⟩
 | k + 1 => by
  obtain ⟨ih0, ih1⟩ := ip4_sizes_p.mono_l k
  refine ⟨?_, ?_⟩
  ·intro y0 y1 y2 y3
   unfold ip4_sizes_p.j0
   repeat' first
   | (with_reducible exact ih0 _ _ _ _)
   | (with_reducible exact ih1 _ _ _)
   | (with_reducible exact LeO.refl _)
   | (with_reducible exact LeO.none _)
   | (with_reducible refine LeO.ite ?_ ?_)
   | (with_reducible refine LeO.bind ?_ (fun _ => ?_))
   | exact ih0 _ _ _ _
   | exact ih1 _ _ _
   | exact LeO.none _
   | refine LeO.ite ?_ ?_
   | refine LeO.bind ?_ (fun _ => ?_)
  ·intro y0 y1 y2
   unfold ip4_sizes_p.j1
   repeat' first
   | (with_reducible exact ih0 _ _ _ _)
   | (with_reducible exact ih1 _ _ _)
   | (with_reducible exact LeO.refl _)
   | (with_reducible exact LeO.none _)
   | (with_reducible refine LeO.ite ?_ ?_)
   | (with_reducible refine LeO.bind ?_ (fun _ => ?_))
   | exact ih0 _ _ _ _
   | exact ih1 _ _ _
   | exact LeO.none _
   | refine LeO.ite ?_ ?_
   | refine LeO.bind ?_ (fun _ => ?_)
theorem ip4_sizes_p.mono : ∀ a0 k, LeO (ip4_sizes_p.f k a0) (ip4_sizes_p.f (k + 1) a0) := by
 intro a0 k
 obtain ⟨ih0, ih1⟩ := ip4_sizes_p.mono_l k
 unfold ip4_sizes_p.f
 repeat' first
   | (with_reducible exact ih0 _ _ _ _)
   | (with_reducible exact ih1 _ _ _)
   | (with_reducible exact LeO.refl _)
   | (with_reducible exact LeO.none _)
   | (with_reducible refine LeO.ite ?_ ?_)
   | (with_reducible refine LeO.bind ?_ (fun _ => ?_))
   | exact ih0 _ _ _ _
   | exact ih1 _ _ _
   | exact LeO.none _
   | refine LeO.ite ?_ ?_
   | refine LeO.bind ?_ (fun _ => ?_)
set_option maxHeartbeats 8000000 in
set_option maxRecDepth 100000 in
theorem ip4_sizes_p.calls (k : Nat) (a0 : ByteArray) (r1 : Int) (r2 : Int) (r3 : Int) (w : World) (h : ip4_sizes_p.f k a0 = some (r1, r2, r3)) :
  Calls Tryz.prog 77 #[.string a0] w fun e w' => e = .returned (.tuple #[.int .i64 r1, .int .i64 r2, .int .i64 r3]) ∧ Below w.heap.size w w' := by
 have HB := AA (Below.refl w.heap.size w)
 have H := h
 unfold ip4_sizes_p.f at H
 clear h
 by_cases c2 : (a0.size : Int) < 20
 ·rw [if_pos c2] at H
  have c2b0 := decide_eq_true c2
  have c2b1 : decide (a0.size < 20) = true := decide_eq_true (by omega)
  clear c2
  simp only [Option.some.injEq, Prod.mk.injEq] at H
  obtain ⟨rfl, rfl, rfl⟩ := H
  go_enter Tryz.func77, Tryz.ntmps77
  go_wp2
  go_ret3
  exact ⟨RT, BW HB⟩
 rw [if_neg c2] at H
 have c2b0 := decide_eq_false c2
 have c2b1 : decide (a0.size < 20) = false := decide_eq_false (by omega)
 clear c2
 replace H := IT H
 obtain ⟨c3, H⟩ := H
 have c3b0 := decide_eq_true c3
 have c3b1 : decide (0 < a0.size) = true := decide_eq_true (by omega)
 clear c3
 replace H := OB H
 obtain ⟨⟨t263, t264⟩, A5, H⟩ := H
 (try set_option simprocs false in dsimp only at H)
 by_cases c7 : ((bt a0 0) / 16) = 4
 rotate_left
 ·rw [if_neg c7] at H
  have c7b0 := BF c7
  have c7b1 := NT c7
  simp only [Option.some.injEq, Prod.mk.injEq] at H
  obtain ⟨rfl, rfl, rfl⟩ := H
  have p4 : 0 ≤ (0 : Int) := (by omega)
  have q4 : 0 < a0.size := (by have : (0 : Int) < (a0.size : Int) := DA; omega)
  have hx4 : ∀ h : 0 < a0.size, ((a0[0]'h).toNat : Int) = bt a0 0 := bt_at a0 0
  clear p4
  have qi4 : (0 < (a0.size : Int)) = True := eq_true (DA)
  replace q4 := eq_true q4
  go_enter Tryz.func77, Tryz.ntmps77
  go_wp2_with (first | ((with_reducible refine gkx 41 rfl ?_); refine gL 15 Tryz.func41 rfl (octet_Get.calls a0 2 2 t263 t264 _ A5.out) ?_; rintro w16 hb; (try clear A5); replace HB := BS HB hb; (try clear hb); have p6 : 0 ≤ (0 : Int) := (by omega); have q6 : 0 < a0.size := (by have : (0 : Int) < (a0.size : Int) := DA; omega); have hx6 : ∀ h : 0 < a0.size, ((a0[0]'h).toNat : Int) = bt a0 0 := bt_at a0 0; clear p6; have qi6 : (0 < (a0.size : Int)) = True := eq_true (DA); replace q6 := eq_true q6))
  go_ret3
  exact ⟨RT, BW HB⟩
 rw [if_pos c7] at H
 have c7b0 := BT c7
 have c7b1 := NF c7
 clear c7
 have HC8 := AA H
 clear H
 have p4 : 0 ≤ (0 : Int) := (by omega)
 have q4 : 0 < a0.size := (by have : (0 : Int) < (a0.size : Int) := DA; omega)
 have hx4 : ∀ h : 0 < a0.size, ((a0[0]'h).toNat : Int) = bt a0 0 := bt_at a0 0
 clear p4
 have qi4 : (0 < (a0.size : Int)) = True := eq_true (DA)
 replace q4 := eq_true q4
 go_enter Tryz.func77, Tryz.ntmps77
 go_upto_region 8 with (first | ((with_reducible refine gkx 41 rfl ?_); refine gL 15 Tryz.func41 rfl (octet_Get.calls a0 2 2 t263 t264 _ A5.out) ?_; rintro w9 hb; replace HB := BS HB hb; (try clear hb); have p6 : 0 ≤ (0 : Int) := (by omega); have q6 : 0 < a0.size := (by have : (0 : Int) < (a0.size : Int) := DA; omega); have hx6 : ∀ h : 0 < a0.size, ((a0[0]'h).toNat : Int) = bt a0 0 := bt_at a0 0; clear p6; have qi6 : (0 < (a0.size : Int)) = True := eq_true (DA); replace q6 := eq_true q6))
 (try simp only [Act.put, List.setIfInBounds_toArray, List.set_cons_zero, List.set_cons_succ])
 go_cut [25] (fun v25 wc => ∃ (kq : Nat) (x25_7 : Bool), v25 = .bool x25_7 ∧ Aside0 (ip4_sizes_p.j0 kq a0 (wrap64 ((wrap64 (Go.bits .and .u8 (bt a0 0) 15)) * 4)) t263 x25_7 = some (r1, r2, r3)) ∧ Aside0 (kq ≤ k) ∧ Aside0 (Below w.heap.size w wc))
 case first =>
  have H := HC8.out
  clear HC8
  by_cases c10 : (wrap64 ((wrap64 (Go.bits .and .u8 (bt a0 0) 15)) * 4)) < 20
  ·rw [if_pos c10] at H
   have c10b0 := decide_eq_true c10
   clear c10
   (first | rw [c10b0] | (simp only [i64_w, i32_w]; rw [c10b0]) | skip)
   have H' := AA H
   clear H
   go_wp2
   go_meet
   case rel => exact ⟨_, (true), QS, H', LR, ⟨BW HB⟩⟩
  rw [if_neg c10] at H
  have c10b0 := decide_eq_false c10
  clear c10
  (first | rw [c10b0] | (simp only [i64_w, i32_w]; rw [c10b0]) | skip)
  have H' := AA H
  clear H
  go_wp2
  go_meet
  case rel => exact ⟨_, (decide ((wrap64 ((wrap64 (Go.bits .and .u8 (bt a0 0) 15)) * 4)) > (a0.size : Int))), QS, H', LR, ⟨BW HB⟩⟩
 case rest =>
  clear HC8
  try clear c1; try clear c2; try clear c2b0; try clear c2b1; try clear p2; try clear c3; try clear c3b0; try clear c3b1; try clear c4; try clear p4; try clear q4; try clear hx4; try clear qi4; try clear p6; try clear q6; try clear hx6; try clear qi6; try clear c7; try clear c7b0; try clear c7b1; try clear c10; try clear c10b0; try clear p4; try clear p6; try clear q4; try clear q6
  obtain ⟨kq, x25_7, rfl, HA, HJ7, HB⟩ := hcut
  cases kq with
  | zero => exact absurd HA.out (by simp [ip4_sizes_p.j0])
  | succ kj7 =>
   have H := HA.out
   clear HA
   simp only [ip4_sizes_p.j0] at H
   by_cases c11 : x25_7 = true
   ·subst c11
    first | rw [if_pos rfl] at H | rw [if_pos trivial] at H
    simp only [Option.some.injEq, Prod.mk.injEq] at H
    obtain ⟨rfl, rfl, rfl⟩ := H
    go_wp2
    go_ret3
    exact ⟨RT, BW HB⟩
   replace c11 := Bool.eq_false_iff.mpr c11
   subst c11
   replace H := IFN H
   have HC12 := AA H
   clear H
   go_upto_region 10 with (fail)
   go_cut [34] (fun v34 wc => ∃ (kq : Nat) (x34_11 : Bool), v34 = .bool x34_11 ∧ Aside0 (ip4_sizes_p.j1 kq (wrap64 ((wrap64 (Go.bits .and .u8 (bt a0 0) 15)) * 4)) t263 x34_11 = some (r1, r2, r3)) ∧ Aside0 (kq ≤ kj7) ∧ Aside0 (Below w.heap.size w wc))
   case first =>
    have H := HC12.out
    clear HC12
    by_cases c13 : t263 < (wrap64 ((wrap64 (Go.bits .and .u8 (bt a0 0) 15)) * 4))
    ·rw [if_pos c13] at H
     have c13b0 := decide_eq_true c13
     clear c13
     (first | rw [c13b0] | (simp only [i64_w, i32_w]; rw [c13b0]) | skip)
     have H' := AA H
     clear H
     go_wp2
     go_meet
     case rel => exact ⟨_, (true), QS, H', ⟨by have := HJ7.out; first | omega | exact Nat.le_refl _⟩, ⟨BW HB⟩⟩
    rw [if_neg c13] at H
    have c13b0 := decide_eq_false c13
    clear c13
    (first | rw [c13b0] | (simp only [i64_w, i32_w]; rw [c13b0]) | skip)
    have H' := AA H
    clear H
    go_wp2
    go_meet
    case rel => exact ⟨_, (decide (t263 > (a0.size : Int))), QS, H', ⟨by have := HJ7.out; first | omega | exact Nat.le_refl _⟩, ⟨BW HB⟩⟩
   case rest =>
    clear HC12
    try clear c1; try clear c2; try clear c2b0; try clear c2b1; try clear p2; try clear c3; try clear c3b0; try clear c3b1; try clear c4; try clear p4; try clear q4; try clear hx4; try clear qi4; try clear p6; try clear q6; try clear hx6; try clear qi6; try clear c7; try clear c7b0; try clear c7b1; try clear c10; try clear c10b0; try clear c11; try clear c13; try clear c13b0; try clear p2; try clear p4; try clear p6; try clear q4; try clear q6
    obtain ⟨kq, x34_11, rfl, HA, HJ11, HB⟩ := hcut
    cases kq with
    | zero => exact absurd HA.out (by simp [ip4_sizes_p.j1])
    | succ kj11 =>
     have H := HA.out
     clear HA
     simp only [ip4_sizes_p.j1] at H
     by_cases c14 : x34_11 = true
     ·subst c14
      first | rw [if_pos rfl] at H | rw [if_pos trivial] at H
      simp only [Option.some.injEq, Prod.mk.injEq] at H
      obtain ⟨rfl, rfl, rfl⟩ := H
      go_wp2
      go_ret3
      exact ⟨RT, BW HB⟩
     replace c14 := Bool.eq_false_iff.mpr c14
     subst c14
     replace H := IFN H
     by_cases c15 : t263 > 1500
     ·rw [if_pos c15] at H
      have c15b0 : decide (1500 < t263) = true := decide_eq_true c15
      clear c15
      simp only [Option.some.injEq, Prod.mk.injEq] at H
      obtain ⟨rfl, rfl, rfl⟩ := H
      go_wp2
      go_ret3
      exact ⟨RT, BW HB⟩
     rw [if_neg c15] at H
     have c15b0 : decide (1500 < t263) = false := decide_eq_false c15
     clear c15
     simp only [Option.some.injEq, Prod.mk.injEq] at H
     obtain ⟨rfl, rfl, rfl⟩ := H
     go_wp2
     go_ret3
     exact ⟨RT, BW HB⟩

theorem i4_and15 : ∀ x : Fin 256, Go.bits .and .u8 (x.val : Int) 15 = (x.val : Int) % 16 := by decide +kernel
theorem i4_b0 {s : ByteArray} (h : 0 < s.size) : bt s 0 = Sp.ip4B0 (bl s) := by
 rcases e : bl s with _ | ⟨x, r⟩
 ·have := bl_length s; rw [e] at this; simp at this; omega
 rw [i4_bt0 e]; rfl
def ip4_sizes.f (a0 : ByteArray) : Option (Int × Int × Int) := if a0.size ≤ 140737488355328 then some (Sp.ip4Sizes (bl a0)) else none
theorem ip4_sizes_eq {a0 : ByteArray} (h : a0.size ≤ 140737488355328) : ip4_sizes.f a0 = some (Sp.ip4Sizes (bl a0)) := by unfold ip4_sizes.f; exact if_pos h
theorem ip4_sizes_ev (a0 : ByteArray) (r : Int × Int × Int) (h : ip4_sizes.f a0 = some r) : ∃ k, ip4_sizes_p.f k a0 = some r := by
 unfold ip4_sizes.f at h
 split at h
 case isFalse => cases h
 case isTrue hs =>
  refine ⟨2, ?_⟩
  rw [← h]
  have hl := bl_length a0
  unfold ip4_sizes_p.f Sp.ip4Sizes
  rw [hl]
  by_cases h1 : (a0.size : Int) < 20
  ·rw [if_pos h1, if_pos h1]
  rw [if_neg h1, if_neg h1, if_pos (by omega), octet_Get_eq _ _ _ (by omega), Option.bind_some, i4_b0 (by omega)]
  have hB := Sp.ip4B0_bounds (bl a0)
  have e15 : Go.bits .and .u8 (Sp.ip4B0 (bl a0)) 15 = Sp.ip4B0 (bl a0) % 16 := by
   have := i4_and15 ⟨(Sp.ip4B0 (bl a0)).toNat, by omega⟩
   rwa [show (((⟨(Sp.ip4B0 (bl a0)).toNat, by omega⟩ : Fin 256).val : Nat) : Int) = Sp.ip4B0 (bl a0) from Int.toNat_of_nonneg hB.1] at this
  have eL : wrap64 (wrap64 (Go.bits .and .u8 (Sp.ip4B0 (bl a0)) 15) * 4) = Sp.ip4Len (bl a0) := by
   rw [e15, wrap_id (n := Sp.ip4B0 (bl a0) % 16) (by omega) (by omega), wrap_id (by omega) (by omega)]
   unfold Sp.ip4Len; omega
  rw [eL]
  show (if Sp.ip4B0 (bl a0) / 16 = 4 then (if Sp.ip4Len (bl a0) < 20 then ip4_sizes_p.j0 2 a0 (Sp.ip4Len (bl a0)) (Sp.ip4Tot (bl a0)) true else ip4_sizes_p.j0 2 a0 (Sp.ip4Len (bl a0)) (Sp.ip4Tot (bl a0)) (decide (Sp.ip4Len (bl a0) > (a0.size : Int)))) else some (0, 0, 3)) = _
  by_cases h2 : Sp.ip4B0 (bl a0) / 16 = 4
  ·rw [if_pos h2, if_neg (show ¬ (Sp.ip4B0 (bl a0) / 16 ≠ 4) from fun h => h h2)]
   by_cases h3 : Sp.ip4Len (bl a0) < 20
   ·rw [if_pos h3, if_pos (Or.inl h3), ip4_sizes_p.j0, if_pos rfl]
   rw [if_neg h3]
   by_cases h4 : Sp.ip4Len (bl a0) > (a0.size : Int)
   ·rw [decide_eq_true h4, if_pos (Or.inr h4), ip4_sizes_p.j0, if_pos rfl]
   rw [decide_eq_false h4, if_neg (by omega), ip4_sizes_p.j0, if_neg (by decide)]
   by_cases h5 : Sp.ip4Tot (bl a0) < Sp.ip4Len (bl a0)
   ·rw [if_pos h5, if_pos (Or.inl h5), ip4_sizes_p.j1, if_pos rfl]
   rw [if_neg h5]
   by_cases h6 : Sp.ip4Tot (bl a0) > (a0.size : Int)
   ·rw [decide_eq_true h6, if_pos (Or.inr h6), ip4_sizes_p.j1, if_pos rfl]
   rw [decide_eq_false h6, if_neg (by omega), ip4_sizes_p.j1, if_neg (by decide)]
   by_cases h7 : Sp.ip4Tot (bl a0) > 1500
   ·rw [if_pos h7, if_pos h7]
   rw [if_neg h7, if_neg h7]
  rw [if_neg h2, if_pos h2]
theorem ip4_sizes.calls (a0 : ByteArray) (r1 : Int) (r2 : Int) (r3 : Int) (w : World) (h : ip4_sizes.f a0 = some (r1, r2, r3)) :
  Calls Tryz.prog 77 #[.string a0] w fun e w' => e = .returned (.tuple #[.int .i64 r1, .int .i64 r2, .int .i64 r3]) ∧ Below w.heap.size w w' := by
 obtain ⟨k, hk⟩ := ip4_sizes_ev a0 _ h
 exact ip4_sizes_p.calls k a0 r1 r2 r3 w hk

/-! ### ip4_OptsRight_p: function 79 -/
def ip4_OptsRight_p.l0 : Nat → ByteArray → Option (Bool)
 | 0, _ => none
 | k + 1, x0 => if x0.toList = ([] : List UInt8) then (some true) else (if 0 < (x0.size : Int) then (if (bt x0 0) = 0 then (some true) else (if (bt x0 0) = 1 then (if 1 ≤ (x0.size : Int) then (ip4_OptsRight_p.l0 k (x0.extract 1 x0.size)) else (none)) else (if (x0.size : Int) < 2 then (some false) else (if 1 < (x0.size : Int) then (if (bt x0 1) < 2 then (some false) else (if (wrap64 (bt x0 1)) > (x0.size : Int) then (some false) else (if 0 ≤ (wrap64 (bt x0 1)) then (if (wrap64 (bt x0 1)) ≤ (x0.size : Int) then (ip4_OptsRight_p.l0 k (x0.extract ((wrap64 (bt x0 1)) : Int).toNat x0.size)) else (none)) else (none)))) else (none))))) else (none))
def ip4_OptsRight_p.f (k : Nat) (a0 : ByteArray) : Option (Bool) := ip4_OptsRight_p.l0 k a0
theorem ip4_OptsRight_p.mono_l : ∀ k, (∀ y0, LeO (ip4_OptsRight_p.l0 k y0) (ip4_OptsRight_p.l0 (k + 1) y0))
 | 0 => fun _ r h => by simp [ip4_OptsRight_p.l0] at h
 | k + 1 => by
  have ih0 := ip4_OptsRight_p.mono_l k
  ·intro y0
   unfold ip4_OptsRight_p.l0
   repeat' first
   | (with_reducible exact ih0 _)
   | (with_reducible exact LeO.refl _)
   | (with_reducible exact LeO.none _)
   | (with_reducible refine LeO.ite ?_ ?_)
   | (with_reducible refine LeO.bind ?_ (fun _ => ?_))
   | exact ih0 _
   | exact LeO.none _
   | refine LeO.ite ?_ ?_
   | refine LeO.bind ?_ (fun _ => ?_)
theorem ip4_OptsRight_p.mono : ∀ a0 k, LeO (ip4_OptsRight_p.f k a0) (ip4_OptsRight_p.f (k + 1) a0) := by
 intro a0 k
 have ih0 := ip4_OptsRight_p.mono_l k
 unfold ip4_OptsRight_p.f
 repeat' first
   | (with_reducible exact ih0 _)
   | (with_reducible exact LeO.refl _)
   | (with_reducible exact LeO.none _)
   | (with_reducible refine LeO.ite ?_ ?_)
   | (with_reducible refine LeO.bind ?_ (fun _ => ?_))
   | exact ih0 _
   | exact LeO.none _
   | refine LeO.ite ?_ ?_
   | refine LeO.bind ?_ (fun _ => ?_)
set_option maxHeartbeats 8000000 in
set_option maxRecDepth 100000 in
theorem ip4_OptsRight_p.calls (k : Nat) (a0 : ByteArray) (r : Bool) (w : World) (h : ip4_OptsRight_p.f k a0 = some r) :
  Calls Tryz.prog 79 #[.string a0] w fun e w' => e = .returned (.bool r) ∧ Drawn0 w w' := by
 have H : (ip4_OptsRight_p.l0 k a0) = some r := h
 clear h
 have H' := AA H
 clear H
 go_enter Tryz.func79, Tryz.ntmps79
 go_wp2
 go_loopg [0] k (fun kq v0 w' => ∃ (x0_1 : ByteArray), v0 = .string x0_1 ∧ Aside0 (ip4_OptsRight_p.l0 kq x0_1 = some r) ∧ Aside0 (kq ≤ k) ∧ Drawn0 w w')
 case atStart => exact ⟨(a0), (RS), H', ⟨Nat.le_refl _⟩, DW⟩
 case round =>
  clear H'
  obtain ⟨x0_1, rfl, HA, HK1, ⟨m1, rfl⟩⟩ := hrel
  cases gk with
  | zero => exact absurd HA.out (by simp [ip4_OptsRight_p.l0])
  | succ k1 =>
   have H := HA.out
   clear HA
   simp only [ip4_OptsRight_p.l0] at H
   by_cases c2 : x0_1.toList = ([] : List UInt8)
   ·rw [if_pos c2] at H
    have c2b0 : (x0_1.toList == ([] : List UInt8)) = true := beq_iff_eq.mpr c2
    have c2b1 : (x0_1.toList != ([] : List UInt8)) = false := bne_eq_false_iff_eq.mpr c2
    clear c2
    obtain rfl := Option.some.inj H
    go_wp2
    go_ret
    exact ⟨RS, DW⟩
   rw [if_neg c2] at H
   have c2b0 : (x0_1.toList == ([] : List UInt8)) = false := beq_eq_false_iff_ne.mpr c2
   have c2b1 : (x0_1.toList != ([] : List UInt8)) = true := bne_iff_ne.mpr c2
   replace H := IT H
   obtain ⟨c3, H⟩ := H
   have c3b0 := decide_eq_true c3
   have c3b1 : decide (0 < x0_1.size) = true := decide_eq_true (by omega)
   clear c3
   by_cases c5 : (bt x0_1 0) = 0
   ·rw [if_pos c5] at H
    have c5b0 := BT c5
    have c5b1 := NF c5
    clear c5
    obtain rfl := Option.some.inj H
    have p4 : 0 ≤ (0 : Int) := (by omega)
    have q4 : 0 < x0_1.size := (by have : (0 : Int) < (x0_1.size : Int) := DA; omega)
    have hx4 : ∀ h : 0 < x0_1.size, ((x0_1[0]'h).toNat : Int) = bt x0_1 0 := bt_at x0_1 0
    clear p4
    have qi4 : (0 < (x0_1.size : Int)) = True := eq_true (DA)
    replace q4 := eq_true q4
    go_wp2
    go_ret
    exact ⟨RS, DW⟩
   rw [if_neg c5] at H
   have c5b0 := BF c5
   have c5b1 := NT c5
   by_cases c6 : (bt x0_1 0) = 1
   ·rw [if_pos c6] at H
    have c6b0 := BT c6
    have c6b1 := NF c6
    clear c6
    by_cases c7 : 1 ≤ (x0_1.size : Int)
    ·rw [if_pos c7] at H
     have c7b0 := eq_true c7
     have c7b1 := decide_eq_true c7
     clear c7
     have H' := AA H
     clear H
     have p4 : 0 ≤ (0 : Int) := (by omega)
     have q4 : 0 < x0_1.size := (by have : (0 : Int) < (x0_1.size : Int) := DA; omega)
     have hx4 : ∀ h : 0 < x0_1.size, ((x0_1[0]'h).toNat : Int) = bt x0_1 0 := bt_at x0_1 0
     clear p4
     have qi4 : (0 < (x0_1.size : Int)) = True := eq_true (DA)
     replace q4 := eq_true q4
     go_wp2
     go_roundg k1
     case measure => have := HK1.out; omega
     case rel => exact ⟨(x0_1.extract 1 x0_1.size), (by first | rfl | (simp; done) | (congr 2; simp only [ByteArray.size_extract, ByteArray.size_append]; (try have := of_eq_true c7b0); (try unfold wrap64); omega) | (simp only [ByteArray.size_extract, ByteArray.size_append, Nat.sub_zero]; done) | (congr 1; simp only [ByteArray.size_extract, ByteArray.size_append, Nat.sub_zero]; (try have := of_eq_true c7b0); omega) | (simp [*]; done)), H', ⟨by have := HK1.out; omega⟩, DW⟩
    rw [if_neg c7] at H
    exact absurd H (by simp)
   rw [if_neg c6] at H
   have c6b0 := BF c6
   have c6b1 := NT c6
   by_cases c8 : (x0_1.size : Int) < 2
   ·rw [if_pos c8] at H
    have c8b0 := decide_eq_true c8
    have c8b1 : decide (x0_1.size < 2) = true := decide_eq_true (by omega)
    clear c8
    obtain rfl := Option.some.inj H
    have p4 : 0 ≤ (0 : Int) := (by omega)
    have q4 : 0 < x0_1.size := (by have : (0 : Int) < (x0_1.size : Int) := DA; omega)
    have hx4 : ∀ h : 0 < x0_1.size, ((x0_1[0]'h).toNat : Int) = bt x0_1 0 := bt_at x0_1 0
    clear p4
    have qi4 : (0 < (x0_1.size : Int)) = True := eq_true (DA)
    replace q4 := eq_true q4
    go_wp2
    go_ret
    exact ⟨RS, DW⟩
   rw [if_neg c8] at H
   have c8b0 := decide_eq_false c8
   have c8b1 : decide (x0_1.size < 2) = false := decide_eq_false (by omega)
   clear c8
   replace H := IT H
   obtain ⟨c9, H⟩ := H
   have c9b0 := decide_eq_true c9
   have c9b1 : decide (1 < x0_1.size) = true := decide_eq_true (by omega)
   clear c9
   by_cases c11 : (bt x0_1 1) < 2
   ·rw [if_pos c11] at H
    have c11b0 := decide_eq_true c11
    clear c11
    obtain rfl := Option.some.inj H
    have p4 : 0 ≤ (0 : Int) := (by omega)
    have q4 : 0 < x0_1.size := (by have : (0 : Int) < (x0_1.size : Int) := DA; omega)
    have hx4 : ∀ h : 0 < x0_1.size, ((x0_1[0]'h).toNat : Int) = bt x0_1 0 := bt_at x0_1 0
    clear p4
    have qi4 : (0 < (x0_1.size : Int)) = True := eq_true (DA)
    replace q4 := eq_true q4
    have p10 : 0 ≤ (1 : Int) := (by omega)
    have q10 : 1 < x0_1.size := (by have : (1 : Int) < (x0_1.size : Int) := DA; omega)
    have hx10 : ∀ h : 1 < x0_1.size, ((x0_1[1]'h).toNat : Int) = bt x0_1 1 := bt_at x0_1 1
    clear p10
    have qi10 : (1 < (x0_1.size : Int)) = True := eq_true (DA)
    replace q10 := eq_true q10
    go_wp2
    go_ret
    exact ⟨RS, DW⟩
   rw [if_neg c11] at H
   have c11b0 := decide_eq_false c11
   clear c11
   by_cases c13 : (wrap64 (bt x0_1 1)) > (x0_1.size : Int)
   ·rw [if_pos c13] at H
    have c13b0 : decide ((x0_1.size : Int) < (wrap64 (bt x0_1 1))) = true := decide_eq_true c13
    clear c13
    obtain rfl := Option.some.inj H
    have p4 : 0 ≤ (0 : Int) := (by omega)
    have q4 : 0 < x0_1.size := (by have : (0 : Int) < (x0_1.size : Int) := DA; omega)
    have hx4 : ∀ h : 0 < x0_1.size, ((x0_1[0]'h).toNat : Int) = bt x0_1 0 := bt_at x0_1 0
    clear p4
    have qi4 : (0 < (x0_1.size : Int)) = True := eq_true (DA)
    replace q4 := eq_true q4
    have p10 : 0 ≤ (1 : Int) := (by omega)
    have q10 : 1 < x0_1.size := (by have : (1 : Int) < (x0_1.size : Int) := DA; omega)
    have hx10 : ∀ h : 1 < x0_1.size, ((x0_1[1]'h).toNat : Int) = bt x0_1 1 := bt_at x0_1 1
    clear p10
    have qi10 : (1 < (x0_1.size : Int)) = True := eq_true (DA)
    replace q10 := eq_true q10
    have p12 : 0 ≤ (1 : Int) := (by omega)
    have q12 : 1 < x0_1.size := (by have : (1 : Int) < (x0_1.size : Int) := DA; omega)
    have hx12 : ∀ h : 1 < x0_1.size, ((x0_1[1]'h).toNat : Int) = bt x0_1 1 := bt_at x0_1 1
    clear p12
    have qi12 : (1 < (x0_1.size : Int)) = True := eq_true (DA)
    replace q12 := eq_true q12
    go_wp2
    go_ret
    exact ⟨RS, DW⟩
   rw [if_neg c13] at H
   have c13b0 : decide ((x0_1.size : Int) < (wrap64 (bt x0_1 1))) = false := decide_eq_false c13
   clear c13
   obtain ⟨ji15, hji15⟩ : ∃ j_ : Int, (wrap64 (bt x0_1 1)) = j_ := ⟨_, rfl⟩
   replace H : (if 0 ≤ (ji15) then (if (ji15) ≤ (x0_1.size : Int) then (ip4_OptsRight_p.l0 k1 (x0_1.extract ((ji15) : Int).toNat x0_1.size)) else (none)) else (none)) = some r := by first | (rw [hji15] at H; exact H) | (simp only [hji15] at H ⊢; exact H)
   (try rw [hji15] at c13b0)
   have hji15w : (IntKind.i64.wrap (bt x0_1 1)) = ji15 := (i64_w _).trans hji15
   replace H := IU H
   obtain ⟨c16b0, c16b1, H⟩ := H
   replace H := IU H
   obtain ⟨c17b0, c17b1, H⟩ := H
   have H' := AA H
   clear H
   have p4 : 0 ≤ (0 : Int) := (by omega)
   have q4 : 0 < x0_1.size := (by have : (0 : Int) < (x0_1.size : Int) := DA; omega)
   have hx4 : ∀ h : 0 < x0_1.size, ((x0_1[0]'h).toNat : Int) = bt x0_1 0 := bt_at x0_1 0
   clear p4
   have qi4 : (0 < (x0_1.size : Int)) = True := eq_true (DA)
   replace q4 := eq_true q4
   have p10 : 0 ≤ (1 : Int) := (by omega)
   have q10 : 1 < x0_1.size := (by have : (1 : Int) < (x0_1.size : Int) := DA; omega)
   have hx10 : ∀ h : 1 < x0_1.size, ((x0_1[1]'h).toNat : Int) = bt x0_1 1 := bt_at x0_1 1
   clear p10
   have qi10 : (1 < (x0_1.size : Int)) = True := eq_true (DA)
   replace q10 := eq_true q10
   have p12 : 0 ≤ (1 : Int) := (by omega)
   have q12 : 1 < x0_1.size := (by have : (1 : Int) < (x0_1.size : Int) := DA; omega)
   have hx12 : ∀ h : 1 < x0_1.size, ((x0_1[1]'h).toNat : Int) = bt x0_1 1 := bt_at x0_1 1
   clear p12
   have qi12 : (1 < (x0_1.size : Int)) = True := eq_true (DA)
   replace q12 := eq_true q12
   have p14 : 0 ≤ (1 : Int) := (by omega)
   have q14 : 1 < x0_1.size := (by have : (1 : Int) < (x0_1.size : Int) := DA; omega)
   have hx14 : ∀ h : 1 < x0_1.size, ((x0_1[1]'h).toNat : Int) = bt x0_1 1 := bt_at x0_1 1
   clear p14
   have qi14 : (1 < (x0_1.size : Int)) = True := eq_true (DA)
   replace q14 := eq_true q14
   go_wp2
   go_roundg k1
   case measure => have := HK1.out; omega
   case rel => exact ⟨(x0_1.extract ((ji15) : Int).toNat x0_1.size), (by first | rfl | (simp; done) | (congr 2; simp only [ByteArray.size_extract, ByteArray.size_append]; (try have := of_eq_true c16b0); (try have := of_eq_true c17b0); (try unfold wrap64); omega) | (simp only [ByteArray.size_extract, ByteArray.size_append, Nat.sub_zero]; done) | (congr 1; simp only [ByteArray.size_extract, ByteArray.size_append, Nat.sub_zero]; (try have := of_eq_true c16b0); (try have := of_eq_true c17b0); omega) | (simp only [← hji15] <;> (first | rfl | simp)) | (simp [*]; done)), H', ⟨by have := HK1.out; omega⟩, DW⟩

def ip4_OptsRight.f (a0 : ByteArray) : Option Bool := if a0.size ≤ 140737488355328 then some (Sp.optsOk (bl a0)) else none
theorem ip4_OptsRight_eq {a0 : ByteArray} (h : a0.size ≤ 140737488355328) : ip4_OptsRight.f a0 = some (Sp.optsOk (bl a0)) := by unfold ip4_OptsRight.f; exact if_pos h
theorem i4_opts_nil (s : ByteArray) (k : Nat) (e : bl s = []) : ip4_OptsRight_p.l0 (k + 1) s = some (Sp.optsOk (bl s)) := by
 rw [ip4_OptsRight_p.l0, if_pos (by rw [ByteArray.toList_eq]; exact e), e]; rfl
theorem i4_opts_loop : ∀ (n : Nat) (s : ByteArray), s.size ≤ n → n ≤ 140737488355328 → ∀ k, n + 1 ≤ k → ip4_OptsRight_p.l0 k s = some (Sp.optsOk (bl s)) := by
 intro n
 induction n with
 | zero =>
  intro s h1 _ k hk
  obtain ⟨k, rfl⟩ : ∃ k', k = k' + 1 := ⟨k - 1, by omega⟩
  exact i4_opts_nil s k (List.eq_nil_of_length_eq_zero (by rw [bl_length]; omega))
 | succ n ih =>
  intro s h1 h2 k hk
  obtain ⟨k, rfl⟩ : ∃ k', k = k' + 1 := ⟨k - 1, by omega⟩
  have hl := bl_length s
  have ex : ∀ i : Nat, 1 ≤ i → i ≤ s.size → ip4_OptsRight_p.l0 k (s.extract i s.size) = some (Sp.optsOk ((bl s).drop i)) := fun i i1 i2 => by
   rw [ih (s.extract i s.size) (by rw [ByteArray.size_extract]; omega) (by omega) k (by omega), Sp.bl_extract]
   congr 2
   rw [List.take_of_length_le (by omega)]
  rcases e : bl s with _ | ⟨x, r⟩
  ·rw [← e]; exact i4_opts_nil s k e
  have hx := i4_bt0 e
  have hs : s.size = r.length + 1 := by rw [← hl, e, List.length_cons]
  have hlt := x.toNat_lt
  rw [ip4_OptsRight_p.l0, if_neg (by rw [ByteArray.toList_eq]; show bl s ≠ []; rw [e]; exact List.cons_ne_nil _ _), if_pos (by omega)]
  by_cases h0 : x = 0
  ·rw [if_pos (by rw [hx, h0]; rfl), h0]; rfl
  have n0 : bt s 0 ≠ 0 := by rw [hx]; intro h; exact h0 (UInt8.toNat_inj.1 (by show _ = 0; omega))
  rw [if_neg n0]
  by_cases h3 : x = 1
  ·rw [if_pos (by rw [hx, h3]; rfl), if_pos (by omega), ex 1 (by omega) (by omega), e, h3, Sp.optsOk_one]; rfl
  have n1 : bt s 0 ≠ 1 := by rw [hx]; intro h; exact h3 (UInt8.toNat_inj.1 (by show _ = 1; omega))
  rw [if_neg n1]
  rcases r with _ | ⟨y, q⟩
  ·rw [if_pos (by rw [hs]; decide), Sp.optsOk_bare h0 h3]
  have hy := i4_bt1 e
  have hyl := y.toNat_lt
  rw [List.length_cons] at hs
  rw [if_neg (by omega), if_pos (by omega), hy]
  by_cases h5 : y.toNat < 2
  ·rw [if_pos (by omega), Sp.optsOk_bad h0 h3 (Or.inl h5)]
  rw [if_neg (by omega), wrap_id (n := (y.toNat : Int)) (by omega) (by omega)]
  by_cases h6 : y.toNat > q.length + 2
  ·rw [if_pos (by omega), Sp.optsOk_bad h0 h3 (Or.inr h6)]
  rw [if_neg (by omega), if_pos (by omega), if_pos (by omega), Int.toNat_natCast, ex y.toNat (by omega) (by omega), e, ← Sp.optsOk_step h0 h3 (by omega)]
theorem ip4_OptsRight_ev (a0 : ByteArray) (r : Bool) (h : ip4_OptsRight.f a0 = some r) : ∃ k, ip4_OptsRight_p.f k a0 = some r := by
 unfold ip4_OptsRight.f at h
 split at h
 case isFalse => cases h
 case isTrue hs =>
  refine ⟨a0.size + 1, ?_⟩
  rw [← h]
  unfold ip4_OptsRight_p.f
  exact i4_opts_loop a0.size a0 (by omega) hs _ (by omega)
theorem ip4_OptsRight.calls (a0 : ByteArray) (r : Bool) (w : World) (h : ip4_OptsRight.f a0 = some r) :
  Calls Tryz.prog 79 #[.string a0] w fun e w' => e = .returned (.bool r) ∧ Drawn0 w w' := by
 obtain ⟨k, hk⟩ := ip4_OptsRight_ev a0 _ h
 exact ip4_OptsRight_p.calls k a0 r w hk

/-! ### ip4_Parse: function 56 -/
theorem i4_below_stepB {w W W' : World} {B : Nat} (e : w.heap.size = B) (h : Below B w W) (hb : Below W.heap.size W W') : Below B w W' := by subst e; exact below_step h hb
theorem i4_heap_drew {W : World} {x : Obj} {B : Nat} (h : W.heap[B]? = some x) : W.drew.heap[B]? = some x := h
set_option maxRecDepth 100000 in
theorem ip4_get (B : Nat) (s : ByteArray) (hs : s.size ≤ 140737488355328) (a n : Int) (w : World) (hS : w.heap[B]? = some (.cells #[.string s] 9 (0, 0))) :
  Calls Tryz.prog 78 #[.int .i64 a, .int .i64 n, .pointer (some ⟨B, 0, none⟩)] w fun e w' => e = .returned (.int .i64 (Sp.get (bl s) a n).1) ∧ Below w.heap.size w w' := by
 have c0 := str_box hS
 have H := fun W => octet_Get.calls s a n _ _ W (octet_Get_eq s a n (by omega))
 go_enter Tryz.func78, Tryz.ntmps78
 go_wp2_with (fail)
 refine (H _).mono ?_
 rintro e w1 ⟨rfl, hb⟩
 go_wp2_with (fail)
 go_ret
 exact ⟨rfl, hb⟩
set_option maxRecDepth 100000 in
set_option maxHeartbeats 8000000 in
theorem ip4_parse_sizes (s : ByteArray) (w : World) (hs : s.size ≤ 140737488355328) (hd tot er : Int) (HZ : ∀ W, Calls Tryz.prog 77 #[.string s] W fun e w' => e = .returned (.tuple #[.int .i64 hd, .int .i64 tot, .int .i64 er]) ∧ Below W.heap.size W w') (he : er ≠ 0) : Calls Tryz.prog 56 #[.string s] w fun e w' => e = .returned (.tuple #[.agg #[.int .i64 0, .int .i64 0, .int .i64 0, .int .i64 0, .int .i64 0, .int .i64 0, .int .u32 0, .int .u32 0, .string ⟨#[]⟩], .string ⟨#[]⟩, .int .i64 er]) ∧ Below w.heap.size w w' := by
 have d0 : (er == 0) = false := by simpa using he
 obtain ⟨A, hA⟩ : ∃ A, w.heap.size = A := ⟨_, rfl⟩
 have hAe := Lib.hid hA
 clear hA
 go_enter Tryz.func56, Tryz.ntmps56
 go_wp2_with (fail)
 refine (HZ _).mono ?_
 rintro e w1 ⟨rfl, hb⟩
 have hS : w1.heap[w.heap.size]? = some (.cells #[.string s] 9 (0, 0)) := i4_heap_step (heap_alloc'' _ (World.alloc_heap_new w _)) hb
 have hR : w1.heap[w.heap.size + 1]? = some (.cells (rr9 0 0 0 0 0 0 0 0 ⟨#[]⟩) 97 (0, 0)) := by
  have := World.alloc_heap_new (w.alloc (.cells #[.string s] 9)) (.cells (rr9 0 0 0 0 0 0 0 0 ⟨#[]⟩) 97)
  rw [World.size_alloc] at this
  exact i4_heap_step this hb
 have hB := below_step (below_alloc (below_alloc (Below.refl _ _) _) _) hb
 clear hb
 rw [hAe.out] at hS hR hB ⊢
 have c0 := (blk_cell hR 0).trans (show _ = some (.int .i64 0) from rfl)
 have c1 := (blk_cell hR 1).trans (show _ = some (.int .i64 0) from rfl)
 have c2 := (blk_cell hR 2).trans (show _ = some (.int .i64 0) from rfl)
 have c3 := (blk_cell hR 3).trans (show _ = some (.int .i64 0) from rfl)
 have c4 := (blk_cell hR 4).trans (show _ = some (.int .i64 0) from rfl)
 have c5 := (blk_cell hR 5).trans (show _ = some (.int .i64 0) from rfl)
 have c6 := (blk_cell hR 6).trans (show _ = some (.int .u32 0) from rfl)
 have c7 := (blk_cell hR 7).trans (show _ = some (.int .u32 0) from rfl)
 have c8 := (blk_cell hR 8).trans (show _ = some (.string ⟨#[]⟩) from rfl)
 have f0 := blk_frozen hR 0
 have f1 := blk_frozen hR 1
 have f2 := blk_frozen hR 2
 have f3 := blk_frozen hR 3
 have f4 := blk_frozen hR 4
 have f5 := blk_frozen hR 5
 have f6 := blk_frozen hR 6
 have f7 := blk_frozen hR 7
 have f8 := blk_frozen hR 8
 have cS := (blk_cell hS 0).trans (show _ = some (.string s) from rfl)
 have HQ := Lib.hid (And.intro hS (And.intro hR hB))
 clear hS hR hB
 go_wp2_with (fail)
 obtain ⟨hS, hR, hB⟩ := HQ.out
 clear HQ cS
 (try simp only [Exit.inBlock, Exit.then])
 refine bodyPost_ret (results_ctt rfl _ _ (A + 1) 97 #[.int .i64 0, .int .i64 0, .int .i64 0, .int .i64 0, .int .i64 0, .int .i64 0, .int .u32 0, .int .u32 0, .string ⟨#[]⟩] (0, 0) _ rfl ?_ Tryz.underlying97 rfl (by kernel_rfl)) rfl ?_
 ·exact (blk_put (cs' := (rr9 0 0 0 0 0 0 0 0 ⟨#[]⟩)) (blk_put (cs' := (rr9 0 0 0 0 0 0 0 0 ⟨#[]⟩)) (blk_put (cs' := (rr9 0 0 0 0 0 0 0 0 ⟨#[]⟩)) (blk_put (cs' := (rr9 0 0 0 0 0 0 0 0 ⟨#[]⟩)) (blk_put (cs' := (rr9 0 0 0 0 0 0 0 0 ⟨#[]⟩)) (blk_put (cs' := (rr9 0 0 0 0 0 0 0 0 ⟨#[]⟩)) (blk_put (cs' := (rr9 0 0 0 0 0 0 0 0 ⟨#[]⟩)) (blk_put (cs' := (rr9 0 0 0 0 0 0 0 0 ⟨#[]⟩)) (blk_put (cs' := (rr9 0 0 0 0 0 0 0 0 ⟨#[]⟩)) hR 0 _ rfl) 1 _ rfl) 2 _ rfl) 3 _ rfl) 4 _ rfl) 5 _ rfl) 6 _ rfl) 7 _ rfl) 8 _ rfl)
 refine ⟨rfl, ?_⟩
 rw [hAe.out]
 exact (Below.setCell (Below.setCell (Below.setCell (Below.setCell (Below.setCell (Below.setCell (Below.setCell (Below.setCell (Below.setCell hB (show A ≤ A + 1 by omega) _) (show A ≤ A + 1 by omega) _) (show A ≤ A + 1 by omega) _) (show A ≤ A + 1 by omega) _) (show A ≤ A + 1 by omega) _) (show A ≤ A + 1 by omega) _) (show A ≤ A + 1 by omega) _) (show A ≤ A + 1 by omega) _) (show A ≤ A + 1 by omega) _)
set_option maxRecDepth 100000 in
set_option maxHeartbeats 8000000 in
theorem ip4_parse_sum (s : ByteArray) (w : World) (hs : s.size ≤ 140737488355328) (hd tot er : Int) (HZ : ∀ W, Calls Tryz.prog 77 #[.string s] W fun e w' => e = .returned (.tuple #[.int .i64 hd, .int .i64 tot, .int .i64 er]) ∧ Below W.heap.size W w') (he : er = 0) (h1 : 20 ≤ hd) (h2 : hd ≤ tot) (h3 : tot ≤ s.size) (ck : Int) (HC : ∀ W, Calls Tryz.prog 64 #[.string (s.extract 0 hd.toNat)] W fun e w' => e = .returned (.int .u16 ck) ∧ Below W.heap.size W w') (hc : ck ≠ 65535) : Calls Tryz.prog 56 #[.string s] w fun e w' => e = .returned (.tuple #[.agg #[.int .i64 0, .int .i64 0, .int .i64 0, .int .i64 0, .int .i64 0, .int .i64 0, .int .u32 0, .int .u32 0, .string ⟨#[]⟩], .string ⟨#[]⟩, .int .i64 7]) ∧ Below w.heap.size w w' := by
 subst he
 have h4 : hd ≤ (s.size : Int) := by omega
 have h5 : 0 ≤ hd := by omega
 have d1 : decide (20 ≤ hd) = true := decide_eq_true h1
 have d2 : decide (hd ≤ (s.size : Int)) = true := decide_eq_true (by omega)
 have d3 : decide (0 ≤ hd) = true := decide_eq_true (by omega)
 have d4 : 20 ≤ hd.toNat := by omega
 have d5 : hd.toNat ≤ s.size := by omega
 have d6 : (ck == 65535) = false := by simpa using hc
 obtain ⟨A, hA⟩ : ∃ A, w.heap.size = A := ⟨_, rfl⟩
 have hAe := Lib.hid hA
 clear hA
 go_enter Tryz.func56, Tryz.ntmps56
 go_wp2_with (fail)
 refine (HZ _).mono ?_
 rintro e w1 ⟨rfl, hb⟩
 have hS : w1.heap[w.heap.size]? = some (.cells #[.string s] 9 (0, 0)) := i4_heap_step (heap_alloc'' _ (World.alloc_heap_new w _)) hb
 have hR : w1.heap[w.heap.size + 1]? = some (.cells (rr9 0 0 0 0 0 0 0 0 ⟨#[]⟩) 97 (0, 0)) := by
  have := World.alloc_heap_new (w.alloc (.cells #[.string s] 9)) (.cells (rr9 0 0 0 0 0 0 0 0 ⟨#[]⟩) 97)
  rw [World.size_alloc] at this
  exact i4_heap_step this hb
 have hB := below_step (below_alloc (below_alloc (Below.refl _ _) _) _) hb
 clear hb
 rw [hAe.out] at hS hR hB ⊢
 have c8 := (blk_cell hR 8).trans (show _ = some (.string ⟨#[]⟩) from rfl)
 have f8 := blk_frozen hR 8
 have cS := (blk_cell hS 0).trans (show _ = some (.string s) from rfl)
 have HQ := Lib.hid (And.intro hS (And.intro hR hB))
 clear hS hR hB
 go_wp2_with (fail)
 obtain ⟨hS, hR, hB⟩ := HQ.out
 clear HQ cS
 clear c8 f8
 have hR' : (w1.setCell ⟨A + 1, 8, none⟩ (.string (s.extract 20 hd.toNat))).heap[A + 1]? = some (.cells (rr9 0 0 0 0 0 0 0 0 (s.extract 20 hd.toNat)) 97 (0, 0)) := (blk_put (cs' := (rr9 0 0 0 0 0 0 0 0 (s.extract 20 hd.toNat))) hR 8 _ rfl)
 have hS' : (w1.setCell ⟨A + 1, 8, none⟩ (.string (s.extract 20 hd.toNat))).heap[A]? = some (.cells #[.string s] 9 (0, 0)) := (blk_far hS (by show A ≠ A + 1; omega) _)
 have hB' : Below A w (w1.setCell ⟨A + 1, 8, none⟩ (.string (s.extract 20 hd.toNat))) := (Below.setCell hB (show A ≤ A + 1 by omega) _)
 clear hS hR hB
 generalize (w1.setCell ⟨A + 1, 8, none⟩ (.string (s.extract 20 hd.toNat))) = u1 at hR' hS' hB' ⊢
 have hS := hS'
 have hR := hR'
 have hB := hB'
 clear hS' hR' hB'
 refine (HC _).mono ?_
 rintro e w2 ⟨rfl, hb⟩
 have hS' := i4_heap_step hS hb
 have hR' := i4_heap_step hR hb
 have hB' := i4_below_stepB hAe.out hB hb
 clear hS hR hB hb
 have hS := hS'
 have hR := hR'
 have hB := hB'
 clear hS' hR' hB'
 have c0 := (blk_cell hR 0).trans (show _ = some (.int .i64 0) from rfl)
 have c1 := (blk_cell hR 1).trans (show _ = some (.int .i64 0) from rfl)
 have c2 := (blk_cell hR 2).trans (show _ = some (.int .i64 0) from rfl)
 have c3 := (blk_cell hR 3).trans (show _ = some (.int .i64 0) from rfl)
 have c4 := (blk_cell hR 4).trans (show _ = some (.int .i64 0) from rfl)
 have c5 := (blk_cell hR 5).trans (show _ = some (.int .i64 0) from rfl)
 have c6 := (blk_cell hR 6).trans (show _ = some (.int .u32 0) from rfl)
 have c7 := (blk_cell hR 7).trans (show _ = some (.int .u32 0) from rfl)
 have c8 := (blk_cell hR 8).trans (show _ = some (.string (s.extract 20 hd.toNat)) from rfl)
 have f0 := blk_frozen hR 0
 have f1 := blk_frozen hR 1
 have f2 := blk_frozen hR 2
 have f3 := blk_frozen hR 3
 have f4 := blk_frozen hR 4
 have f5 := blk_frozen hR 5
 have f6 := blk_frozen hR 6
 have f7 := blk_frozen hR 7
 have f8 := blk_frozen hR 8
 have cS := (blk_cell hS 0).trans (show _ = some (.string s) from rfl)
 have HQ := Lib.hid (And.intro hS (And.intro hR hB))
 clear hS hR hB
 go_wp2_with (fail)
 obtain ⟨hS, hR, hB⟩ := HQ.out
 clear HQ cS
 (try simp only [Exit.inBlock, Exit.then])
 refine bodyPost_ret (results_ctt rfl _ _ (A + 1) 97 #[.int .i64 0, .int .i64 0, .int .i64 0, .int .i64 0, .int .i64 0, .int .i64 0, .int .u32 0, .int .u32 0, .string ⟨#[]⟩] (0, 0) _ rfl ?_ Tryz.underlying97 rfl (by kernel_rfl)) rfl ?_
 ·exact (blk_put (cs' := (rr9 0 0 0 0 0 0 0 0 ⟨#[]⟩)) (blk_put (cs' := (rr9 0 0 0 0 0 0 0 0 (s.extract 20 hd.toNat))) (blk_put (cs' := (rr9 0 0 0 0 0 0 0 0 (s.extract 20 hd.toNat))) (blk_put (cs' := (rr9 0 0 0 0 0 0 0 0 (s.extract 20 hd.toNat))) (blk_put (cs' := (rr9 0 0 0 0 0 0 0 0 (s.extract 20 hd.toNat))) (blk_put (cs' := (rr9 0 0 0 0 0 0 0 0 (s.extract 20 hd.toNat))) (blk_put (cs' := (rr9 0 0 0 0 0 0 0 0 (s.extract 20 hd.toNat))) (blk_put (cs' := (rr9 0 0 0 0 0 0 0 0 (s.extract 20 hd.toNat))) (blk_put (cs' := (rr9 0 0 0 0 0 0 0 0 (s.extract 20 hd.toNat))) hR 0 _ rfl) 1 _ rfl) 2 _ rfl) 3 _ rfl) 4 _ rfl) 5 _ rfl) 6 _ rfl) 7 _ rfl) 8 _ rfl)
 refine ⟨rfl, ?_⟩
 rw [hAe.out]
 exact (Below.setCell (Below.setCell (Below.setCell (Below.setCell (Below.setCell (Below.setCell (Below.setCell (Below.setCell (Below.setCell hB (show A ≤ A + 1 by omega) _) (show A ≤ A + 1 by omega) _) (show A ≤ A + 1 by omega) _) (show A ≤ A + 1 by omega) _) (show A ≤ A + 1 by omega) _) (show A ≤ A + 1 by omega) _) (show A ≤ A + 1 by omega) _) (show A ≤ A + 1 by omega) _) (show A ≤ A + 1 by omega) _)
set_option maxRecDepth 100000 in
set_option maxHeartbeats 8000000 in
theorem ip4_parse_opts (s : ByteArray) (w : World) (hs : s.size ≤ 140737488355328) (hd tot er : Int) (HZ : ∀ W, Calls Tryz.prog 77 #[.string s] W fun e w' => e = .returned (.tuple #[.int .i64 hd, .int .i64 tot, .int .i64 er]) ∧ Below W.heap.size W w') (he : er = 0) (h1 : 20 ≤ hd) (h2 : hd ≤ tot) (h3 : tot ≤ s.size) (ck : Int) (HC : ∀ W, Calls Tryz.prog 64 #[.string (s.extract 0 hd.toNat)] W fun e w' => e = .returned (.int .u16 ck) ∧ Below W.heap.size W w') (hc : ck = 65535) (ob : Bool) (HO : ∀ W, Calls Tryz.prog 79 #[.string (s.extract 20 hd.toNat)] W fun e w' => e = .returned (.bool ob) ∧ Below W.heap.size W w') (ho : ob = false) : Calls Tryz.prog 56 #[.string s] w fun e w' => e = .returned (.tuple #[.agg #[.int .i64 0, .int .i64 0, .int .i64 0, .int .i64 0, .int .i64 0, .int .i64 0, .int .u32 0, .int .u32 0, .string ⟨#[]⟩], .string ⟨#[]⟩, .int .i64 6]) ∧ Below w.heap.size w w' := by
 subst he
 have h4 : hd ≤ (s.size : Int) := by omega
 have h5 : 0 ≤ hd := by omega
 have d1 : decide (20 ≤ hd) = true := decide_eq_true h1
 have d2 : decide (hd ≤ (s.size : Int)) = true := decide_eq_true (by omega)
 have d3 : decide (0 ≤ hd) = true := decide_eq_true (by omega)
 have d4 : 20 ≤ hd.toNat := by omega
 have d5 : hd.toNat ≤ s.size := by omega
 subst hc
 subst ho
 obtain ⟨A, hA⟩ : ∃ A, w.heap.size = A := ⟨_, rfl⟩
 have hAe := Lib.hid hA
 clear hA
 go_enter Tryz.func56, Tryz.ntmps56
 go_wp2_with (fail)
 refine (HZ _).mono ?_
 rintro e w1 ⟨rfl, hb⟩
 have hS : w1.heap[w.heap.size]? = some (.cells #[.string s] 9 (0, 0)) := i4_heap_step (heap_alloc'' _ (World.alloc_heap_new w _)) hb
 have hR : w1.heap[w.heap.size + 1]? = some (.cells (rr9 0 0 0 0 0 0 0 0 ⟨#[]⟩) 97 (0, 0)) := by
  have := World.alloc_heap_new (w.alloc (.cells #[.string s] 9)) (.cells (rr9 0 0 0 0 0 0 0 0 ⟨#[]⟩) 97)
  rw [World.size_alloc] at this
  exact i4_heap_step this hb
 have hB := below_step (below_alloc (below_alloc (Below.refl _ _) _) _) hb
 clear hb
 rw [hAe.out] at hS hR hB ⊢
 have c8 := (blk_cell hR 8).trans (show _ = some (.string ⟨#[]⟩) from rfl)
 have f8 := blk_frozen hR 8
 have cS := (blk_cell hS 0).trans (show _ = some (.string s) from rfl)
 have HQ := Lib.hid (And.intro hS (And.intro hR hB))
 clear hS hR hB
 go_wp2_with (fail)
 obtain ⟨hS, hR, hB⟩ := HQ.out
 clear HQ cS
 clear c8 f8
 have hR' : (w1.setCell ⟨A + 1, 8, none⟩ (.string (s.extract 20 hd.toNat))).heap[A + 1]? = some (.cells (rr9 0 0 0 0 0 0 0 0 (s.extract 20 hd.toNat)) 97 (0, 0)) := (blk_put (cs' := (rr9 0 0 0 0 0 0 0 0 (s.extract 20 hd.toNat))) hR 8 _ rfl)
 have hS' : (w1.setCell ⟨A + 1, 8, none⟩ (.string (s.extract 20 hd.toNat))).heap[A]? = some (.cells #[.string s] 9 (0, 0)) := (blk_far hS (by show A ≠ A + 1; omega) _)
 have hB' : Below A w (w1.setCell ⟨A + 1, 8, none⟩ (.string (s.extract 20 hd.toNat))) := (Below.setCell hB (show A ≤ A + 1 by omega) _)
 clear hS hR hB
 generalize (w1.setCell ⟨A + 1, 8, none⟩ (.string (s.extract 20 hd.toNat))) = u1 at hR' hS' hB' ⊢
 have hS := hS'
 have hR := hR'
 have hB := hB'
 clear hS' hR' hB'
 refine (HC _).mono ?_
 rintro e w2 ⟨rfl, hb⟩
 have hS' := i4_heap_step hS hb
 have hR' := i4_heap_step hR hb
 have hB' := i4_below_stepB hAe.out hB hb
 clear hS hR hB hb
 have hS := hS'
 have hR := hR'
 have hB := hB'
 clear hS' hR' hB'
 have c8 := (blk_cell hR 8).trans (show _ = some (.string (s.extract 20 hd.toNat)) from rfl)
 have f8 := blk_frozen hR 8
 have cS := (blk_cell hS 0).trans (show _ = some (.string s) from rfl)
 have HQ := Lib.hid (And.intro hS (And.intro hR hB))
 clear hS hR hB
 go_wp2_with (fail)
 obtain ⟨hS, hR, hB⟩ := HQ.out
 clear HQ cS
 clear c8 f8
 refine (HO _).mono ?_
 rintro e w3 ⟨rfl, hb⟩
 have hS' := i4_heap_step hS hb
 have hR' := i4_heap_step hR hb
 have hB' := i4_below_stepB hAe.out hB hb
 clear hS hR hB hb
 have hS := hS'
 have hR := hR'
 have hB := hB'
 clear hS' hR' hB'
 have c0 := (blk_cell hR 0).trans (show _ = some (.int .i64 0) from rfl)
 have c1 := (blk_cell hR 1).trans (show _ = some (.int .i64 0) from rfl)
 have c2 := (blk_cell hR 2).trans (show _ = some (.int .i64 0) from rfl)
 have c3 := (blk_cell hR 3).trans (show _ = some (.int .i64 0) from rfl)
 have c4 := (blk_cell hR 4).trans (show _ = some (.int .i64 0) from rfl)
 have c5 := (blk_cell hR 5).trans (show _ = some (.int .i64 0) from rfl)
 have c6 := (blk_cell hR 6).trans (show _ = some (.int .u32 0) from rfl)
 have c7 := (blk_cell hR 7).trans (show _ = some (.int .u32 0) from rfl)
 have c8 := (blk_cell hR 8).trans (show _ = some (.string (s.extract 20 hd.toNat)) from rfl)
 have f0 := blk_frozen hR 0
 have f1 := blk_frozen hR 1
 have f2 := blk_frozen hR 2
 have f3 := blk_frozen hR 3
 have f4 := blk_frozen hR 4
 have f5 := blk_frozen hR 5
 have f6 := blk_frozen hR 6
 have f7 := blk_frozen hR 7
 have f8 := blk_frozen hR 8
 have cS := (blk_cell hS 0).trans (show _ = some (.string s) from rfl)
 have HQ := Lib.hid (And.intro hS (And.intro hR hB))
 clear hS hR hB
 go_wp2_with (fail)
 obtain ⟨hS, hR, hB⟩ := HQ.out
 clear HQ cS
 (try simp only [Exit.inBlock, Exit.then])
 refine bodyPost_ret (results_ctt rfl _ _ (A + 1) 97 #[.int .i64 0, .int .i64 0, .int .i64 0, .int .i64 0, .int .i64 0, .int .i64 0, .int .u32 0, .int .u32 0, .string ⟨#[]⟩] (0, 0) _ rfl ?_ Tryz.underlying97 rfl (by kernel_rfl)) rfl ?_
 ·exact (blk_put (cs' := (rr9 0 0 0 0 0 0 0 0 ⟨#[]⟩)) (blk_put (cs' := (rr9 0 0 0 0 0 0 0 0 (s.extract 20 hd.toNat))) (blk_put (cs' := (rr9 0 0 0 0 0 0 0 0 (s.extract 20 hd.toNat))) (blk_put (cs' := (rr9 0 0 0 0 0 0 0 0 (s.extract 20 hd.toNat))) (blk_put (cs' := (rr9 0 0 0 0 0 0 0 0 (s.extract 20 hd.toNat))) (blk_put (cs' := (rr9 0 0 0 0 0 0 0 0 (s.extract 20 hd.toNat))) (blk_put (cs' := (rr9 0 0 0 0 0 0 0 0 (s.extract 20 hd.toNat))) (blk_put (cs' := (rr9 0 0 0 0 0 0 0 0 (s.extract 20 hd.toNat))) (blk_put (cs' := (rr9 0 0 0 0 0 0 0 0 (s.extract 20 hd.toNat))) hR 0 _ rfl) 1 _ rfl) 2 _ rfl) 3 _ rfl) 4 _ rfl) 5 _ rfl) 6 _ rfl) 7 _ rfl) 8 _ rfl)
 refine ⟨rfl, ?_⟩
 rw [hAe.out]
 exact (Below.setCell (Below.setCell (Below.setCell (Below.setCell (Below.setCell (Below.setCell (Below.setCell (Below.setCell (Below.setCell hB (show A ≤ A + 1 by omega) _) (show A ≤ A + 1 by omega) _) (show A ≤ A + 1 by omega) _) (show A ≤ A + 1 by omega) _) (show A ≤ A + 1 by omega) _) (show A ≤ A + 1 by omega) _) (show A ≤ A + 1 by omega) _) (show A ≤ A + 1 by omega) _) (show A ≤ A + 1 by omega) _)
set_option maxRecDepth 100000 in
set_option maxHeartbeats 8000000 in
theorem ip4_parse_ok (s : ByteArray) (w : World) (hs : s.size ≤ 140737488355328) (hd tot er : Int) (HZ : ∀ W, Calls Tryz.prog 77 #[.string s] W fun e w' => e = .returned (.tuple #[.int .i64 hd, .int .i64 tot, .int .i64 er]) ∧ Below W.heap.size W w') (he : er = 0) (h1 : 20 ≤ hd) (h2 : hd ≤ tot) (h3 : tot ≤ s.size) (ck : Int) (HC : ∀ W, Calls Tryz.prog 64 #[.string (s.extract 0 hd.toNat)] W fun e w' => e = .returned (.int .u16 ck) ∧ Below W.heap.size W w') (hc : ck = 65535) (ob : Bool) (HO : ∀ W, Calls Tryz.prog 79 #[.string (s.extract 20 hd.toNat)] W fun e w' => e = .returned (.bool ob) ∧ Below W.heap.size W w') (ho : ob = true) : Calls Tryz.prog 56 #[.string s] w fun e w' => e = .returned (.tuple #[.agg #[.int .i64 (Sp.get (bl s) 1 1).1, .int .i64 (Sp.get (bl s) 4 2).1, .int .i64 ((Sp.get (bl s) 6 2).1 / 8192), .int .i64 (Go.bits .and .i64 (Sp.get (bl s) 6 2).1 8191), .int .i64 (Sp.get (bl s) 8 1).1, .int .i64 (Sp.get (bl s) 9 1).1, .int .u32 ((Sp.get (bl s) 12 4).1 % 4294967296), .int .u32 ((Sp.get (bl s) 16 4).1 % 4294967296), .string (s.extract 20 hd.toNat)], .string (s.extract hd.toNat tot.toNat), .int .i64 0]) ∧ Below w.heap.size w w' := by
 subst he
 have h4 : hd ≤ (s.size : Int) := by omega
 have h5 : 0 ≤ hd := by omega
 have d1 : decide (20 ≤ hd) = true := decide_eq_true h1
 have d2 : decide (hd ≤ (s.size : Int)) = true := decide_eq_true (by omega)
 have d3 : decide (0 ≤ hd) = true := decide_eq_true (by omega)
 have d4 : 20 ≤ hd.toNat := by omega
 have d5 : hd.toNat ≤ s.size := by omega
 subst hc
 subst ho
 obtain ⟨A, hA⟩ : ∃ A, w.heap.size = A := ⟨_, rfl⟩
 have hAe := Lib.hid hA
 clear hA
 go_enter Tryz.func56, Tryz.ntmps56
 go_wp2_with (fail)
 refine (HZ _).mono ?_
 rintro e w1 ⟨rfl, hb⟩
 have hS : w1.heap[w.heap.size]? = some (.cells #[.string s] 9 (0, 0)) := i4_heap_step (heap_alloc'' _ (World.alloc_heap_new w _)) hb
 have hR : w1.heap[w.heap.size + 1]? = some (.cells (rr9 0 0 0 0 0 0 0 0 ⟨#[]⟩) 97 (0, 0)) := by
  have := World.alloc_heap_new (w.alloc (.cells #[.string s] 9)) (.cells (rr9 0 0 0 0 0 0 0 0 ⟨#[]⟩) 97)
  rw [World.size_alloc] at this
  exact i4_heap_step this hb
 have hB := below_step (below_alloc (below_alloc (Below.refl _ _) _) _) hb
 clear hb
 rw [hAe.out] at hS hR hB ⊢
 have c8 := (blk_cell hR 8).trans (show _ = some (.string ⟨#[]⟩) from rfl)
 have f8 := blk_frozen hR 8
 have cS := (blk_cell hS 0).trans (show _ = some (.string s) from rfl)
 have HQ := Lib.hid (And.intro hS (And.intro hR hB))
 clear hS hR hB
 go_wp2_with (fail)
 obtain ⟨hS, hR, hB⟩ := HQ.out
 clear HQ cS
 clear c8 f8
 have hR' : (w1.setCell ⟨A + 1, 8, none⟩ (.string (s.extract 20 hd.toNat))).heap[A + 1]? = some (.cells (rr9 0 0 0 0 0 0 0 0 (s.extract 20 hd.toNat)) 97 (0, 0)) := (blk_put (cs' := (rr9 0 0 0 0 0 0 0 0 (s.extract 20 hd.toNat))) hR 8 _ rfl)
 have hS' : (w1.setCell ⟨A + 1, 8, none⟩ (.string (s.extract 20 hd.toNat))).heap[A]? = some (.cells #[.string s] 9 (0, 0)) := (blk_far hS (by show A ≠ A + 1; omega) _)
 have hB' : Below A w (w1.setCell ⟨A + 1, 8, none⟩ (.string (s.extract 20 hd.toNat))) := (Below.setCell hB (show A ≤ A + 1 by omega) _)
 clear hS hR hB
 generalize (w1.setCell ⟨A + 1, 8, none⟩ (.string (s.extract 20 hd.toNat))) = u1 at hR' hS' hB' ⊢
 have hS := hS'
 have hR := hR'
 have hB := hB'
 clear hS' hR' hB'
 refine (HC _).mono ?_
 rintro e w2 ⟨rfl, hb⟩
 have hS' := i4_heap_step hS hb
 have hR' := i4_heap_step hR hb
 have hB' := i4_below_stepB hAe.out hB hb
 clear hS hR hB hb
 have hS := hS'
 have hR := hR'
 have hB := hB'
 clear hS' hR' hB'
 have c8 := (blk_cell hR 8).trans (show _ = some (.string (s.extract 20 hd.toNat)) from rfl)
 have f8 := blk_frozen hR 8
 have cS := (blk_cell hS 0).trans (show _ = some (.string s) from rfl)
 have HQ := Lib.hid (And.intro hS (And.intro hR hB))
 clear hS hR hB
 go_wp2_with (fail)
 obtain ⟨hS, hR, hB⟩ := HQ.out
 clear HQ cS
 clear c8 f8
 refine (HO _).mono ?_
 rintro e w3 ⟨rfl, hb⟩
 have hS' := i4_heap_step hS hb
 have hR' := i4_heap_step hR hb
 have hB' := i4_below_stepB hAe.out hB hb
 clear hS hR hB hb
 have hS := hS'
 have hR := hR'
 have hB := hB'
 clear hS' hR' hB'
 have cS := (blk_cell hS 0).trans (show _ = some (.string s) from rfl)
 have HQ := Lib.hid (And.intro hS (And.intro hR hB))
 clear hS hR hB
 go_wp2_with (fail)
 obtain ⟨hS, hR, hB⟩ := HQ.out
 clear HQ cS
 refine (ip4_get A s hs 1 1 _ hS).mono ?_
 rintro e y1 ⟨rfl, hb⟩
 have hS' := i4_heap_step hS hb
 have hR' := i4_heap_step hR hb
 have hB' := i4_below_stepB hAe.out hB hb
 clear hS hR hB hb
 have hS := hS'
 have hR := hR'
 have hB := hB'
 clear hS' hR' hB'
 have cS := (blk_cell hS 0).trans (show _ = some (.string s) from rfl)
 have HQ := Lib.hid (And.intro hS (And.intro hR hB))
 clear hS hR hB
 go_wp2_with (fail)
 obtain ⟨hS, hR, hB⟩ := HQ.out
 clear HQ cS
 refine (ip4_get A s hs 4 2 _ hS).mono ?_
 rintro e y2 ⟨rfl, hb⟩
 have hS' := i4_heap_step hS hb
 have hR' := i4_heap_step hR hb
 have hB' := i4_below_stepB hAe.out hB hb
 clear hS hR hB hb
 have hS := hS'
 have hR := hR'
 have hB := hB'
 clear hS' hR' hB'
 have cS := (blk_cell hS 0).trans (show _ = some (.string s) from rfl)
 have HQ := Lib.hid (And.intro hS (And.intro hR hB))
 clear hS hR hB
 go_wp2_with (fail)
 obtain ⟨hS, hR, hB⟩ := HQ.out
 clear HQ cS
 refine (ip4_get A s hs 8 1 _ hS).mono ?_
 rintro e y3 ⟨rfl, hb⟩
 have hS' := i4_heap_step hS hb
 have hR' := i4_heap_step hR hb
 have hB' := i4_below_stepB hAe.out hB hb
 clear hS hR hB hb
 have hS := hS'
 have hR := hR'
 have hB := hB'
 clear hS' hR' hB'
 have cS := (blk_cell hS 0).trans (show _ = some (.string s) from rfl)
 have HQ := Lib.hid (And.intro hS (And.intro hR hB))
 clear hS hR hB
 go_wp2_with (fail)
 obtain ⟨hS, hR, hB⟩ := HQ.out
 clear HQ cS
 refine (ip4_get A s hs 9 1 _ hS).mono ?_
 rintro e y4 ⟨rfl, hb⟩
 have hS' := i4_heap_step hS hb
 have hR' := i4_heap_step hR hb
 have hB' := i4_below_stepB hAe.out hB hb
 clear hS hR hB hb
 have hS := hS'
 have hR := hR'
 have hB := hB'
 clear hS' hR' hB'
 have c0 := (blk_cell hR 0).trans (show _ = some (.int .i64 0) from rfl)
 have c1 := (blk_cell hR 1).trans (show _ = some (.int .i64 0) from rfl)
 have c4 := (blk_cell hR 4).trans (show _ = some (.int .i64 0) from rfl)
 have c5 := (blk_cell hR 5).trans (show _ = some (.int .i64 0) from rfl)
 have f0 := blk_frozen hR 0
 have f1 := blk_frozen hR 1
 have f4 := blk_frozen hR 4
 have f5 := blk_frozen hR 5
 have cS := (blk_cell hS 0).trans (show _ = some (.string s) from rfl)
 have HQ := Lib.hid (And.intro hS (And.intro hR hB))
 clear hS hR hB
 go_wp2_with (fail)
 obtain ⟨hS, hR, hB⟩ := HQ.out
 clear HQ cS
 clear c0 f0 c1 f1 c4 f4 c5 f5
 have hR' : ((((y4.setCell ⟨A + 1, 0, none⟩ (.int .i64 (Sp.get (bl s) 1 1).1)).setCell ⟨A + 1, 1, none⟩ (.int .i64 (Sp.get (bl s) 4 2).1)).setCell ⟨A + 1, 4, none⟩ (.int .i64 (Sp.get (bl s) 8 1).1)).setCell ⟨A + 1, 5, none⟩ (.int .i64 (Sp.get (bl s) 9 1).1)).heap[A + 1]? = some (.cells #[.int .i64 (Sp.get (bl s) 1 1).1, .int .i64 (Sp.get (bl s) 4 2).1, .int .i64 0, .int .i64 0, .int .i64 (Sp.get (bl s) 8 1).1, .int .i64 (Sp.get (bl s) 9 1).1, .int .u32 0, .int .u32 0, .string (s.extract 20 hd.toNat)] 97 (0, 0)) := (blk_put (cs' := #[.int .i64 (Sp.get (bl s) 1 1).1, .int .i64 (Sp.get (bl s) 4 2).1, .int .i64 0, .int .i64 0, .int .i64 (Sp.get (bl s) 8 1).1, .int .i64 (Sp.get (bl s) 9 1).1, .int .u32 0, .int .u32 0, .string (s.extract 20 hd.toNat)]) (blk_put (cs' := #[.int .i64 (Sp.get (bl s) 1 1).1, .int .i64 (Sp.get (bl s) 4 2).1, .int .i64 0, .int .i64 0, .int .i64 (Sp.get (bl s) 8 1).1, .int .i64 0, .int .u32 0, .int .u32 0, .string (s.extract 20 hd.toNat)]) (blk_put (cs' := #[.int .i64 (Sp.get (bl s) 1 1).1, .int .i64 (Sp.get (bl s) 4 2).1, .int .i64 0, .int .i64 0, .int .i64 0, .int .i64 0, .int .u32 0, .int .u32 0, .string (s.extract 20 hd.toNat)]) (blk_put (cs' := #[.int .i64 (Sp.get (bl s) 1 1).1, .int .i64 0, .int .i64 0, .int .i64 0, .int .i64 0, .int .i64 0, .int .u32 0, .int .u32 0, .string (s.extract 20 hd.toNat)]) hR 0 _ rfl) 1 _ rfl) 4 _ rfl) 5 _ rfl)
 have hS' : ((((y4.setCell ⟨A + 1, 0, none⟩ (.int .i64 (Sp.get (bl s) 1 1).1)).setCell ⟨A + 1, 1, none⟩ (.int .i64 (Sp.get (bl s) 4 2).1)).setCell ⟨A + 1, 4, none⟩ (.int .i64 (Sp.get (bl s) 8 1).1)).setCell ⟨A + 1, 5, none⟩ (.int .i64 (Sp.get (bl s) 9 1).1)).heap[A]? = some (.cells #[.string s] 9 (0, 0)) := (blk_far (blk_far (blk_far (blk_far hS (by show A ≠ A + 1; omega) _) (by show A ≠ A + 1; omega) _) (by show A ≠ A + 1; omega) _) (by show A ≠ A + 1; omega) _)
 have hB' : Below A w ((((y4.setCell ⟨A + 1, 0, none⟩ (.int .i64 (Sp.get (bl s) 1 1).1)).setCell ⟨A + 1, 1, none⟩ (.int .i64 (Sp.get (bl s) 4 2).1)).setCell ⟨A + 1, 4, none⟩ (.int .i64 (Sp.get (bl s) 8 1).1)).setCell ⟨A + 1, 5, none⟩ (.int .i64 (Sp.get (bl s) 9 1).1)) := (Below.setCell (Below.setCell (Below.setCell (Below.setCell hB (show A ≤ A + 1 by omega) _) (show A ≤ A + 1 by omega) _) (show A ≤ A + 1 by omega) _) (show A ≤ A + 1 by omega) _)
 clear hS hR hB
 generalize ((((y4.setCell ⟨A + 1, 0, none⟩ (.int .i64 (Sp.get (bl s) 1 1).1)).setCell ⟨A + 1, 1, none⟩ (.int .i64 (Sp.get (bl s) 4 2).1)).setCell ⟨A + 1, 4, none⟩ (.int .i64 (Sp.get (bl s) 8 1).1)).setCell ⟨A + 1, 5, none⟩ (.int .i64 (Sp.get (bl s) 9 1).1)) = u2 at hR' hS' hB' ⊢
 have hS := hS'
 have hR := hR'
 have hB := hB'
 clear hS' hR' hB'
 refine (ip4_get A s hs 6 2 _ hS).mono ?_
 rintro e y5 ⟨rfl, hb⟩
 have hS' := i4_heap_step hS hb
 have hR' := i4_heap_step hR hb
 have hB' := i4_below_stepB hAe.out hB hb
 clear hS hR hB hb
 have hS := hS'
 have hR := hR'
 have hB := hB'
 clear hS' hR' hB'
 have cS := (blk_cell hS 0).trans (show _ = some (.string s) from rfl)
 have HQ := Lib.hid (And.intro hS (And.intro hR hB))
 clear hS hR hB
 go_wp2_with (fail)
 obtain ⟨hS, hR, hB⟩ := HQ.out
 clear HQ cS
 refine (ip4_get A s hs 6 2 _ hS).mono ?_
 rintro e y6 ⟨rfl, hb⟩
 have hS' := i4_heap_step hS hb
 have hR' := i4_heap_step hR hb
 have hB' := i4_below_stepB hAe.out hB hb
 clear hS hR hB hb
 have hS := hS'
 have hR := hR'
 have hB := hB'
 clear hS' hR' hB'
 have c2 := (blk_cell hR 2).trans (show _ = some (.int .i64 0) from rfl)
 have c3 := (blk_cell hR 3).trans (show _ = some (.int .i64 0) from rfl)
 have f2 := blk_frozen hR 2
 have f3 := blk_frozen hR 3
 have cS := (blk_cell hS 0).trans (show _ = some (.string s) from rfl)
 have HQ := Lib.hid (And.intro hS (And.intro hR hB))
 clear hS hR hB
 go_wp2_with (fail)
 obtain ⟨hS, hR, hB⟩ := HQ.out
 clear HQ cS
 clear c2 f2 c3 f3
 have hR' : ((y6.setCell ⟨A + 1, 2, none⟩ (.int .i64 ((Sp.get (bl s) 6 2).1 / 8192))).setCell ⟨A + 1, 3, none⟩ (.int .i64 (Go.bits .and .i64 (Sp.get (bl s) 6 2).1 8191))).heap[A + 1]? = some (.cells #[.int .i64 (Sp.get (bl s) 1 1).1, .int .i64 (Sp.get (bl s) 4 2).1, .int .i64 ((Sp.get (bl s) 6 2).1 / 8192), .int .i64 (Go.bits .and .i64 (Sp.get (bl s) 6 2).1 8191), .int .i64 (Sp.get (bl s) 8 1).1, .int .i64 (Sp.get (bl s) 9 1).1, .int .u32 0, .int .u32 0, .string (s.extract 20 hd.toNat)] 97 (0, 0)) := (blk_put (cs' := #[.int .i64 (Sp.get (bl s) 1 1).1, .int .i64 (Sp.get (bl s) 4 2).1, .int .i64 ((Sp.get (bl s) 6 2).1 / 8192), .int .i64 (Go.bits .and .i64 (Sp.get (bl s) 6 2).1 8191), .int .i64 (Sp.get (bl s) 8 1).1, .int .i64 (Sp.get (bl s) 9 1).1, .int .u32 0, .int .u32 0, .string (s.extract 20 hd.toNat)]) (blk_put (cs' := #[.int .i64 (Sp.get (bl s) 1 1).1, .int .i64 (Sp.get (bl s) 4 2).1, .int .i64 ((Sp.get (bl s) 6 2).1 / 8192), .int .i64 0, .int .i64 (Sp.get (bl s) 8 1).1, .int .i64 (Sp.get (bl s) 9 1).1, .int .u32 0, .int .u32 0, .string (s.extract 20 hd.toNat)]) hR 2 _ rfl) 3 _ rfl)
 have hS' : ((y6.setCell ⟨A + 1, 2, none⟩ (.int .i64 ((Sp.get (bl s) 6 2).1 / 8192))).setCell ⟨A + 1, 3, none⟩ (.int .i64 (Go.bits .and .i64 (Sp.get (bl s) 6 2).1 8191))).heap[A]? = some (.cells #[.string s] 9 (0, 0)) := (blk_far (blk_far hS (by show A ≠ A + 1; omega) _) (by show A ≠ A + 1; omega) _)
 have hB' : Below A w ((y6.setCell ⟨A + 1, 2, none⟩ (.int .i64 ((Sp.get (bl s) 6 2).1 / 8192))).setCell ⟨A + 1, 3, none⟩ (.int .i64 (Go.bits .and .i64 (Sp.get (bl s) 6 2).1 8191))) := (Below.setCell (Below.setCell hB (show A ≤ A + 1 by omega) _) (show A ≤ A + 1 by omega) _)
 clear hS hR hB
 generalize ((y6.setCell ⟨A + 1, 2, none⟩ (.int .i64 ((Sp.get (bl s) 6 2).1 / 8192))).setCell ⟨A + 1, 3, none⟩ (.int .i64 (Go.bits .and .i64 (Sp.get (bl s) 6 2).1 8191))) = u3 at hR' hS' hB' ⊢
 have hS := hS'
 have hR := hR'
 have hB := hB'
 clear hS' hR' hB'
 refine (ip4_get A s hs 12 4 _ hS).mono ?_
 rintro e y7 ⟨rfl, hb⟩
 have hS' := i4_heap_step hS hb
 have hR' := i4_heap_step hR hb
 have hB' := i4_below_stepB hAe.out hB hb
 clear hS hR hB hb
 have hS := hS'
 have hR := hR'
 have hB := hB'
 clear hS' hR' hB'
 have cS := (blk_cell hS 0).trans (show _ = some (.string s) from rfl)
 have HQ := Lib.hid (And.intro hS (And.intro hR hB))
 clear hS hR hB
 go_wp2_with (fail)
 obtain ⟨hS, hR, hB⟩ := HQ.out
 clear HQ cS
 refine (ip4_get A s hs 16 4 _ hS).mono ?_
 rintro e y8 ⟨rfl, hb⟩
 have hS' := i4_heap_step hS hb
 have hR' := i4_heap_step hR hb
 have hB' := i4_below_stepB hAe.out hB hb
 clear hS hR hB hb
 have hS := hS'
 have hR := hR'
 have hB := hB'
 clear hS' hR' hB'
 have c6 := (blk_cell hR 6).trans (show _ = some (.int .u32 0) from rfl)
 have c7 := (blk_cell hR 7).trans (show _ = some (.int .u32 0) from rfl)
 have f6 := blk_frozen hR 6
 have f7 := blk_frozen hR 7
 have cS := (blk_cell hS 0).trans (show _ = some (.string s) from rfl)
 have HQ := Lib.hid (And.intro hS (And.intro hR hB))
 clear hS hR hB
 go_wp2_with (fail)
 obtain ⟨hS, hR, hB⟩ := HQ.out
 clear HQ cS
 clear c6 f6 c7 f7
 have hR' : ((y8.setCell ⟨A + 1, 6, none⟩ (.int .u32 ((Sp.get (bl s) 12 4).1 % 4294967296))).setCell ⟨A + 1, 7, none⟩ (.int .u32 ((Sp.get (bl s) 16 4).1 % 4294967296))).heap[A + 1]? = some (.cells #[.int .i64 (Sp.get (bl s) 1 1).1, .int .i64 (Sp.get (bl s) 4 2).1, .int .i64 ((Sp.get (bl s) 6 2).1 / 8192), .int .i64 (Go.bits .and .i64 (Sp.get (bl s) 6 2).1 8191), .int .i64 (Sp.get (bl s) 8 1).1, .int .i64 (Sp.get (bl s) 9 1).1, .int .u32 ((Sp.get (bl s) 12 4).1 % 4294967296), .int .u32 ((Sp.get (bl s) 16 4).1 % 4294967296), .string (s.extract 20 hd.toNat)] 97 (0, 0)) := (blk_put (cs' := #[.int .i64 (Sp.get (bl s) 1 1).1, .int .i64 (Sp.get (bl s) 4 2).1, .int .i64 ((Sp.get (bl s) 6 2).1 / 8192), .int .i64 (Go.bits .and .i64 (Sp.get (bl s) 6 2).1 8191), .int .i64 (Sp.get (bl s) 8 1).1, .int .i64 (Sp.get (bl s) 9 1).1, .int .u32 ((Sp.get (bl s) 12 4).1 % 4294967296), .int .u32 ((Sp.get (bl s) 16 4).1 % 4294967296), .string (s.extract 20 hd.toNat)]) (blk_put (cs' := #[.int .i64 (Sp.get (bl s) 1 1).1, .int .i64 (Sp.get (bl s) 4 2).1, .int .i64 ((Sp.get (bl s) 6 2).1 / 8192), .int .i64 (Go.bits .and .i64 (Sp.get (bl s) 6 2).1 8191), .int .i64 (Sp.get (bl s) 8 1).1, .int .i64 (Sp.get (bl s) 9 1).1, .int .u32 ((Sp.get (bl s) 12 4).1 % 4294967296), .int .u32 0, .string (s.extract 20 hd.toNat)]) hR 6 _ rfl) 7 _ rfl)
 have hS' : ((y8.setCell ⟨A + 1, 6, none⟩ (.int .u32 ((Sp.get (bl s) 12 4).1 % 4294967296))).setCell ⟨A + 1, 7, none⟩ (.int .u32 ((Sp.get (bl s) 16 4).1 % 4294967296))).heap[A]? = some (.cells #[.string s] 9 (0, 0)) := (blk_far (blk_far hS (by show A ≠ A + 1; omega) _) (by show A ≠ A + 1; omega) _)
 have hB' : Below A w ((y8.setCell ⟨A + 1, 6, none⟩ (.int .u32 ((Sp.get (bl s) 12 4).1 % 4294967296))).setCell ⟨A + 1, 7, none⟩ (.int .u32 ((Sp.get (bl s) 16 4).1 % 4294967296))) := (Below.setCell (Below.setCell hB (show A ≤ A + 1 by omega) _) (show A ≤ A + 1 by omega) _)
 clear hS hR hB
 generalize ((y8.setCell ⟨A + 1, 6, none⟩ (.int .u32 ((Sp.get (bl s) 12 4).1 % 4294967296))).setCell ⟨A + 1, 7, none⟩ (.int .u32 ((Sp.get (bl s) 16 4).1 % 4294967296))) = u4 at hR' hS' hB' ⊢
 have hS := hS'
 have hR := hR'
 have hB := hB'
 clear hS' hR' hB'
 have hRS : ∀ W : World, W.heap[A + 1]? = some (.cells #[.int .i64 (Sp.get (bl s) 1 1).1, .int .i64 (Sp.get (bl s) 4 2).1, .int .i64 ((Sp.get (bl s) 6 2).1 / 8192), .int .i64 (Go.bits .and .i64 (Sp.get (bl s) 6 2).1 8191), .int .i64 (Sp.get (bl s) 8 1).1, .int .i64 (Sp.get (bl s) 9 1).1, .int .u32 ((Sp.get (bl s) 12 4).1 % 4294967296), .int .u32 ((Sp.get (bl s) 16 4).1 % 4294967296), .string (s.extract 20 hd.toNat)] 97 (0, 0)) → W.heap[A]? = some (.cells #[.string s] 9 (0, 0)) → (W.cell? ⟨A + 1, 0, none⟩ = some (.int .i64 (Sp.get (bl s) 1 1).1) ∧ W.cell? ⟨A + 1, 1, none⟩ = some (.int .i64 (Sp.get (bl s) 4 2).1) ∧ W.cell? ⟨A + 1, 2, none⟩ = some (.int .i64 ((Sp.get (bl s) 6 2).1 / 8192)) ∧ W.cell? ⟨A + 1, 3, none⟩ = some (.int .i64 (Go.bits .and .i64 (Sp.get (bl s) 6 2).1 8191)) ∧ W.cell? ⟨A + 1, 4, none⟩ = some (.int .i64 (Sp.get (bl s) 8 1).1) ∧ W.cell? ⟨A + 1, 5, none⟩ = some (.int .i64 (Sp.get (bl s) 9 1).1) ∧ W.cell? ⟨A + 1, 6, none⟩ = some (.int .u32 ((Sp.get (bl s) 12 4).1 % 4294967296)) ∧ W.cell? ⟨A + 1, 7, none⟩ = some (.int .u32 ((Sp.get (bl s) 16 4).1 % 4294967296)) ∧ W.cell? ⟨A + 1, 8, none⟩ = some (.string (s.extract 20 hd.toNat)) ∧ W.cell? ⟨A, 0, none⟩ = some (.string s)) := fun W hR hS => ⟨(blk_cell hR 0).trans rfl, (blk_cell hR 1).trans rfl, (blk_cell hR 2).trans rfl, (blk_cell hR 3).trans rfl, (blk_cell hR 4).trans rfl, (blk_cell hR 5).trans rfl, (blk_cell hR 6).trans rfl, (blk_cell hR 7).trans rfl, (blk_cell hR 8).trans rfl, (blk_cell hS 0).trans rfl⟩
 refine start_ (n := 8) (S := fun w' => w'.cell? ⟨A + 1, 0, none⟩ = some (.int .i64 (Sp.get (bl s) 1 1).1) ∧ w'.cell? ⟨A + 1, 1, none⟩ = some (.int .i64 (Sp.get (bl s) 4 2).1) ∧ w'.cell? ⟨A + 1, 2, none⟩ = some (.int .i64 ((Sp.get (bl s) 6 2).1 / 8192)) ∧ w'.cell? ⟨A + 1, 3, none⟩ = some (.int .i64 (Go.bits .and .i64 (Sp.get (bl s) 6 2).1 8191)) ∧ w'.cell? ⟨A + 1, 4, none⟩ = some (.int .i64 (Sp.get (bl s) 8 1).1) ∧ w'.cell? ⟨A + 1, 5, none⟩ = some (.int .i64 (Sp.get (bl s) 9 1).1) ∧ w'.cell? ⟨A + 1, 6, none⟩ = some (.int .u32 ((Sp.get (bl s) 12 4).1 % 4294967296)) ∧ w'.cell? ⟨A + 1, 7, none⟩ = some (.int .u32 ((Sp.get (bl s) 16 4).1 % 4294967296)) ∧ w'.cell? ⟨A + 1, 8, none⟩ = some (.string (s.extract 20 hd.toNat)) ∧ w'.cell? ⟨A, 0, none⟩ = some (.string s)) (ds := []) (bm 8 0x0) (by kernel_rfl) rfl rfl (hRS _ (i4_heap_drew hR) (i4_heap_drew hS)) (fun hHeld => ?_)
 have hR' := i4_heap_drew hR
 have hS' := i4_heap_drew hS
 have hB' : Below A w u4.drew := by rw [← hAe.out] at hB ⊢; exact below_drew hB
 clear hR hB hS
 generalize u4.drew = v2 at hR' hS' hB' hHeld ⊢
 clear u4
 have hz0 : 0 ≤ hd := by omega
 have hz1 : hd ≤ tot := by omega
 have hz2 : 0 ≤ tot := by omega
 have x0 : v2.cell? ⟨A + 1, 0, none⟩ = some (.int .i64 (Sp.get (bl s) 1 1).1) := (blk_cell hR' 0).trans rfl
 have x1 : v2.cell? ⟨A + 1, 1, none⟩ = some (.int .i64 (Sp.get (bl s) 4 2).1) := (blk_cell hR' 1).trans rfl
 have x2 : v2.cell? ⟨A + 1, 2, none⟩ = some (.int .i64 ((Sp.get (bl s) 6 2).1 / 8192)) := (blk_cell hR' 2).trans rfl
 have x3 : v2.cell? ⟨A + 1, 3, none⟩ = some (.int .i64 (Go.bits .and .i64 (Sp.get (bl s) 6 2).1 8191)) := (blk_cell hR' 3).trans rfl
 have x4 : v2.cell? ⟨A + 1, 4, none⟩ = some (.int .i64 (Sp.get (bl s) 8 1).1) := (blk_cell hR' 4).trans rfl
 have x5 : v2.cell? ⟨A + 1, 5, none⟩ = some (.int .i64 (Sp.get (bl s) 9 1).1) := (blk_cell hR' 5).trans rfl
 have x6 : v2.cell? ⟨A + 1, 6, none⟩ = some (.int .u32 ((Sp.get (bl s) 12 4).1 % 4294967296)) := (blk_cell hR' 6).trans rfl
 have x7 : v2.cell? ⟨A + 1, 7, none⟩ = some (.int .u32 ((Sp.get (bl s) 16 4).1 % 4294967296)) := (blk_cell hR' 7).trans rfl
 have x8 : v2.cell? ⟨A + 1, 8, none⟩ = some (.string (s.extract 20 hd.toNat)) := (blk_cell hR' 8).trans rfl
 have z0 := blk_frozen hR' 0
 have z1 := blk_frozen hR' 1
 have z2 := blk_frozen hR' 2
 have z3 := blk_frozen hR' 3
 have z4 := blk_frozen hR' 4
 have z5 := blk_frozen hR' 5
 have z6 := blk_frozen hR' 6
 have z7 := blk_frozen hR' 7
 have z8 := blk_frozen hR' 8
 refine tk 0 64 (bm 8 0x1) hHeld ?_
 refine tk 1 65 (bm 8 0x3) hHeld ?_
 refine pk 2 66 (bm 8 0x7) ?_
 refine pk 3 67 (bm 8 0xf) ?_
 refine pk 4 68 (bm 8 0x1f) ?_
 refine one_ (i := 5) (N := none) (bm 8 0x3f) rfl rfl (by kernel_rfl) (by decide) (fun K hK => ?_)
 refine skip_ (w1 := ?_) (by rfl) rfl ?_ ?_
 rotate_left
 ·go_simp
  rfl
 refine hK.out _ _ (hRS _ (blk_put (cs' := #[.int .i64 (Sp.get (bl s) 1 1).1, .int .i64 (Sp.get (bl s) 4 2).1, .int .i64 ((Sp.get (bl s) 6 2).1 / 8192), .int .i64 (Go.bits .and .i64 (Sp.get (bl s) 6 2).1 8191), .int .i64 (Sp.get (bl s) 8 1).1, .int .i64 (Sp.get (bl s) 9 1).1, .int .u32 ((Sp.get (bl s) 12 4).1 % 4294967296), .int .u32 ((Sp.get (bl s) 16 4).1 % 4294967296), .string (s.extract 20 hd.toNat)]) (blk_put (cs' := #[.int .i64 (Sp.get (bl s) 1 1).1, .int .i64 (Sp.get (bl s) 4 2).1, .int .i64 ((Sp.get (bl s) 6 2).1 / 8192), .int .i64 (Go.bits .and .i64 (Sp.get (bl s) 6 2).1 8191), .int .i64 (Sp.get (bl s) 8 1).1, .int .i64 (Sp.get (bl s) 9 1).1, .int .u32 ((Sp.get (bl s) 12 4).1 % 4294967296), .int .u32 ((Sp.get (bl s) 16 4).1 % 4294967296), .string (s.extract 20 hd.toNat)]) (blk_put (cs' := #[.int .i64 (Sp.get (bl s) 1 1).1, .int .i64 (Sp.get (bl s) 4 2).1, .int .i64 ((Sp.get (bl s) 6 2).1 / 8192), .int .i64 (Go.bits .and .i64 (Sp.get (bl s) 6 2).1 8191), .int .i64 (Sp.get (bl s) 8 1).1, .int .i64 (Sp.get (bl s) 9 1).1, .int .u32 ((Sp.get (bl s) 12 4).1 % 4294967296), .int .u32 ((Sp.get (bl s) 16 4).1 % 4294967296), .string (s.extract 20 hd.toNat)]) (blk_put (cs' := #[.int .i64 (Sp.get (bl s) 1 1).1, .int .i64 (Sp.get (bl s) 4 2).1, .int .i64 ((Sp.get (bl s) 6 2).1 / 8192), .int .i64 (Go.bits .and .i64 (Sp.get (bl s) 6 2).1 8191), .int .i64 (Sp.get (bl s) 8 1).1, .int .i64 (Sp.get (bl s) 9 1).1, .int .u32 ((Sp.get (bl s) 12 4).1 % 4294967296), .int .u32 ((Sp.get (bl s) 16 4).1 % 4294967296), .string (s.extract 20 hd.toNat)]) (blk_put (cs' := #[.int .i64 (Sp.get (bl s) 1 1).1, .int .i64 (Sp.get (bl s) 4 2).1, .int .i64 ((Sp.get (bl s) 6 2).1 / 8192), .int .i64 (Go.bits .and .i64 (Sp.get (bl s) 6 2).1 8191), .int .i64 (Sp.get (bl s) 8 1).1, .int .i64 (Sp.get (bl s) 9 1).1, .int .u32 ((Sp.get (bl s) 12 4).1 % 4294967296), .int .u32 ((Sp.get (bl s) 16 4).1 % 4294967296), .string (s.extract 20 hd.toNat)]) (blk_put (cs' := #[.int .i64 (Sp.get (bl s) 1 1).1, .int .i64 (Sp.get (bl s) 4 2).1, .int .i64 ((Sp.get (bl s) 6 2).1 / 8192), .int .i64 (Go.bits .and .i64 (Sp.get (bl s) 6 2).1 8191), .int .i64 (Sp.get (bl s) 8 1).1, .int .i64 (Sp.get (bl s) 9 1).1, .int .u32 ((Sp.get (bl s) 12 4).1 % 4294967296), .int .u32 ((Sp.get (bl s) 16 4).1 % 4294967296), .string (s.extract 20 hd.toNat)]) (blk_put (cs' := #[.int .i64 (Sp.get (bl s) 1 1).1, .int .i64 (Sp.get (bl s) 4 2).1, .int .i64 ((Sp.get (bl s) 6 2).1 / 8192), .int .i64 (Go.bits .and .i64 (Sp.get (bl s) 6 2).1 8191), .int .i64 (Sp.get (bl s) 8 1).1, .int .i64 (Sp.get (bl s) 9 1).1, .int .u32 ((Sp.get (bl s) 12 4).1 % 4294967296), .int .u32 ((Sp.get (bl s) 16 4).1 % 4294967296), .string (s.extract 20 hd.toNat)]) (blk_put (cs' := #[.int .i64 (Sp.get (bl s) 1 1).1, .int .i64 (Sp.get (bl s) 4 2).1, .int .i64 ((Sp.get (bl s) 6 2).1 / 8192), .int .i64 (Go.bits .and .i64 (Sp.get (bl s) 6 2).1 8191), .int .i64 (Sp.get (bl s) 8 1).1, .int .i64 (Sp.get (bl s) 9 1).1, .int .u32 ((Sp.get (bl s) 12 4).1 % 4294967296), .int .u32 ((Sp.get (bl s) 16 4).1 % 4294967296), .string (s.extract 20 hd.toNat)]) (blk_put (cs' := #[.int .i64 (Sp.get (bl s) 1 1).1, .int .i64 (Sp.get (bl s) 4 2).1, .int .i64 ((Sp.get (bl s) 6 2).1 / 8192), .int .i64 (Go.bits .and .i64 (Sp.get (bl s) 6 2).1 8191), .int .i64 (Sp.get (bl s) 8 1).1, .int .i64 (Sp.get (bl s) 9 1).1, .int .u32 ((Sp.get (bl s) 12 4).1 % 4294967296), .int .u32 ((Sp.get (bl s) 16 4).1 % 4294967296), .string (s.extract 20 hd.toNat)]) hR' 0 _ rfl) 1 _ rfl) 2 _ rfl) 3 _ rfl) 4 _ rfl) 5 _ rfl) 6 _ rfl) 7 _ rfl) 8 _ rfl) (blk_far (blk_far (blk_far (blk_far (blk_far (blk_far (blk_far (blk_far (blk_far hS' (by show A ≠ A + 1; omega) _) (by show A ≠ A + 1; omega) _) (by show A ≠ A + 1; omega) _) (by show A ≠ A + 1; omega) _) (by show A ≠ A + 1; omega) _) (by show A ≠ A + 1; omega) _) (by show A ≠ A + 1; omega) _) (by show A ≠ A + 1; omega) _) (by show A ≠ A + 1; omega) _)) (fun hHeld2 => ?_)
 clear hK K
 refine pk 6 3 (bm 8 0x7f) ?_
 refine pk 7 4 (bm 8 0xff) ?_
 refine done_ (by kernel_rfl) ?_
 go_wp2_with (fail)
 (try simp only [Exit.inBlock, Exit.then])
 refine bodyPost_ret (results_ctt rfl _ _ (A + 1) 97 #[.int .i64 (Sp.get (bl s) 1 1).1, .int .i64 (Sp.get (bl s) 4 2).1, .int .i64 ((Sp.get (bl s) 6 2).1 / 8192), .int .i64 (Go.bits .and .i64 (Sp.get (bl s) 6 2).1 8191), .int .i64 (Sp.get (bl s) 8 1).1, .int .i64 (Sp.get (bl s) 9 1).1, .int .u32 ((Sp.get (bl s) 12 4).1 % 4294967296), .int .u32 ((Sp.get (bl s) 16 4).1 % 4294967296), .string (s.extract 20 hd.toNat)] (0, 0) _ rfl ?_ Tryz.underlying97 rfl (by kernel_rfl)) rfl ?_
 ·exact (blk_put (cs' := #[.int .i64 (Sp.get (bl s) 1 1).1, .int .i64 (Sp.get (bl s) 4 2).1, .int .i64 ((Sp.get (bl s) 6 2).1 / 8192), .int .i64 (Go.bits .and .i64 (Sp.get (bl s) 6 2).1 8191), .int .i64 (Sp.get (bl s) 8 1).1, .int .i64 (Sp.get (bl s) 9 1).1, .int .u32 ((Sp.get (bl s) 12 4).1 % 4294967296), .int .u32 ((Sp.get (bl s) 16 4).1 % 4294967296), .string (s.extract 20 hd.toNat)]) (blk_put (cs' := #[.int .i64 (Sp.get (bl s) 1 1).1, .int .i64 (Sp.get (bl s) 4 2).1, .int .i64 ((Sp.get (bl s) 6 2).1 / 8192), .int .i64 (Go.bits .and .i64 (Sp.get (bl s) 6 2).1 8191), .int .i64 (Sp.get (bl s) 8 1).1, .int .i64 (Sp.get (bl s) 9 1).1, .int .u32 ((Sp.get (bl s) 12 4).1 % 4294967296), .int .u32 ((Sp.get (bl s) 16 4).1 % 4294967296), .string (s.extract 20 hd.toNat)]) (blk_put (cs' := #[.int .i64 (Sp.get (bl s) 1 1).1, .int .i64 (Sp.get (bl s) 4 2).1, .int .i64 ((Sp.get (bl s) 6 2).1 / 8192), .int .i64 (Go.bits .and .i64 (Sp.get (bl s) 6 2).1 8191), .int .i64 (Sp.get (bl s) 8 1).1, .int .i64 (Sp.get (bl s) 9 1).1, .int .u32 ((Sp.get (bl s) 12 4).1 % 4294967296), .int .u32 ((Sp.get (bl s) 16 4).1 % 4294967296), .string (s.extract 20 hd.toNat)]) (blk_put (cs' := #[.int .i64 (Sp.get (bl s) 1 1).1, .int .i64 (Sp.get (bl s) 4 2).1, .int .i64 ((Sp.get (bl s) 6 2).1 / 8192), .int .i64 (Go.bits .and .i64 (Sp.get (bl s) 6 2).1 8191), .int .i64 (Sp.get (bl s) 8 1).1, .int .i64 (Sp.get (bl s) 9 1).1, .int .u32 ((Sp.get (bl s) 12 4).1 % 4294967296), .int .u32 ((Sp.get (bl s) 16 4).1 % 4294967296), .string (s.extract 20 hd.toNat)]) (blk_put (cs' := #[.int .i64 (Sp.get (bl s) 1 1).1, .int .i64 (Sp.get (bl s) 4 2).1, .int .i64 ((Sp.get (bl s) 6 2).1 / 8192), .int .i64 (Go.bits .and .i64 (Sp.get (bl s) 6 2).1 8191), .int .i64 (Sp.get (bl s) 8 1).1, .int .i64 (Sp.get (bl s) 9 1).1, .int .u32 ((Sp.get (bl s) 12 4).1 % 4294967296), .int .u32 ((Sp.get (bl s) 16 4).1 % 4294967296), .string (s.extract 20 hd.toNat)]) (blk_put (cs' := #[.int .i64 (Sp.get (bl s) 1 1).1, .int .i64 (Sp.get (bl s) 4 2).1, .int .i64 ((Sp.get (bl s) 6 2).1 / 8192), .int .i64 (Go.bits .and .i64 (Sp.get (bl s) 6 2).1 8191), .int .i64 (Sp.get (bl s) 8 1).1, .int .i64 (Sp.get (bl s) 9 1).1, .int .u32 ((Sp.get (bl s) 12 4).1 % 4294967296), .int .u32 ((Sp.get (bl s) 16 4).1 % 4294967296), .string (s.extract 20 hd.toNat)]) (blk_put (cs' := #[.int .i64 (Sp.get (bl s) 1 1).1, .int .i64 (Sp.get (bl s) 4 2).1, .int .i64 ((Sp.get (bl s) 6 2).1 / 8192), .int .i64 (Go.bits .and .i64 (Sp.get (bl s) 6 2).1 8191), .int .i64 (Sp.get (bl s) 8 1).1, .int .i64 (Sp.get (bl s) 9 1).1, .int .u32 ((Sp.get (bl s) 12 4).1 % 4294967296), .int .u32 ((Sp.get (bl s) 16 4).1 % 4294967296), .string (s.extract 20 hd.toNat)]) (blk_put (cs' := #[.int .i64 (Sp.get (bl s) 1 1).1, .int .i64 (Sp.get (bl s) 4 2).1, .int .i64 ((Sp.get (bl s) 6 2).1 / 8192), .int .i64 (Go.bits .and .i64 (Sp.get (bl s) 6 2).1 8191), .int .i64 (Sp.get (bl s) 8 1).1, .int .i64 (Sp.get (bl s) 9 1).1, .int .u32 ((Sp.get (bl s) 12 4).1 % 4294967296), .int .u32 ((Sp.get (bl s) 16 4).1 % 4294967296), .string (s.extract 20 hd.toNat)]) (blk_put (cs' := #[.int .i64 (Sp.get (bl s) 1 1).1, .int .i64 (Sp.get (bl s) 4 2).1, .int .i64 ((Sp.get (bl s) 6 2).1 / 8192), .int .i64 (Go.bits .and .i64 (Sp.get (bl s) 6 2).1 8191), .int .i64 (Sp.get (bl s) 8 1).1, .int .i64 (Sp.get (bl s) 9 1).1, .int .u32 ((Sp.get (bl s) 12 4).1 % 4294967296), .int .u32 ((Sp.get (bl s) 16 4).1 % 4294967296), .string (s.extract 20 hd.toNat)]) hR' 0 _ rfl) 1 _ rfl) 2 _ rfl) 3 _ rfl) 4 _ rfl) 5 _ rfl) 6 _ rfl) 7 _ rfl) 8 _ rfl)
 refine ⟨rfl, ?_⟩
 rw [hAe.out]
 exact (Below.setCell (Below.setCell (Below.setCell (Below.setCell (Below.setCell (Below.setCell (Below.setCell (Below.setCell (Below.setCell hB' (show A ≤ A + 1 by omega) _) (show A ≤ A + 1 by omega) _) (show A ≤ A + 1 by omega) _) (show A ≤ A + 1 by omega) _) (show A ≤ A + 1 by omega) _) (show A ≤ A + 1 by omega) _) (show A ≤ A + 1 by omega) _) (show A ≤ A + 1 by omega) _) (show A ≤ A + 1 by omega) _)
theorem i4_small (s : List UInt8) (a b : Int) : 0 ≤ (Sp.get s a b).1 ∧ (Sp.get s a b).1 < 4294967296 := by
 unfold Sp.get
 split
 case isFalse => exact ⟨by decide, by decide⟩
 case isTrue h =>
  have hf := Sp.has_iff.1 h
  exact Sp.beNum_small _ (by rw [List.length_take]; omega)
theorem i4_and {x : Int} (h : 0 ≤ x ∧ x < 4294967296) : Go.bits .and .i64 x 8191 = x % 8192 := by
 obtain ⟨n, rfl⟩ : ∃ n : Nat, x = (n : Int) := ⟨x.toNat, by omega⟩
 have e : Go.bits .and .i64 ((n : Nat) : Int) 8191 = IntKind.i64.wrap ((BitVec.ofInt 64 ((n : Nat) : Int) &&& BitVec.ofInt 64 8191).toNat : Int) := rfl
 rw [e, BitVec.toNat_and, BitVec.ofInt_natCast, BitVec.toNat_ofNat, Nat.mod_eq_of_lt (show n < 2 ^ 64 by omega), show (BitVec.ofInt 64 8191).toNat = 2 ^ 13 - 1 from rfl, Nat.and_two_pow_sub_one_eq_mod, IntKind.wrap_i64]
 omega
theorem ip4_parse_any (s : ByteArray) (hs : s.size ≤ 140737488355328) (w : World) : Calls Tryz.prog 56 #[.string s] w fun e w' => e = .returned (.tuple #[.agg #[.int .i64 (Sp.ip4Parse (bl s)).tos, .int .i64 (Sp.ip4Parse (bl s)).id, .int .i64 (Sp.ip4Parse (bl s)).flags, .int .i64 (Sp.ip4Parse (bl s)).frag, .int .i64 (Sp.ip4Parse (bl s)).ttl, .int .i64 (Sp.ip4Parse (bl s)).proto, .int .u32 (Sp.ip4Parse (bl s)).src, .int .u32 (Sp.ip4Parse (bl s)).dst, .string (lb (Sp.ip4Parse (bl s)).opts)], .string (lb (Sp.ip4Parse (bl s)).body), .int .i64 (Sp.ip4Parse (bl s)).e]) ∧ Below w.heap.size w w' := by
 have hl := bl_length s
 have HZ := fun W => ip4_sizes.calls s (Sp.ip4Sizes (bl s)).1 (Sp.ip4Sizes (bl s)).2.1 (Sp.ip4Sizes (bl s)).2.2 W (ip4_sizes_eq hs)
 by_cases h0 : (Sp.ip4Sizes (bl s)).2.2 = 0
 rotate_left
 ·have h := ip4_parse_sizes s w hs _ _ _ HZ h0
  have e : Sp.ip4Parse (bl s) = Sp.ip4None (Sp.ip4Sizes (bl s)).2.2 := by unfold Sp.ip4Parse; rw [if_neg h0]
  rw [e]; exact h
 obtain ⟨z1, z2, z3, z4, z5, z6, z7, ez⟩ := Sp.ip4Sizes_ok h0
 have e1 : (Sp.ip4Sizes (bl s)).1 = Sp.ip4Len (bl s) := by rw [ez]
 have e2 : (Sp.ip4Sizes (bl s)).2.1 = Sp.ip4Tot (bl s) := by rw [ez]
 have hx : ∀ i j : Nat, s.extract i j = lb (((bl s).take j).drop i) := fun i j => Sp.bl_inj (by rw [bl_extract, bl_lb])
 have HC := fun W => cksum_Sum.calls (s.extract 0 (Sp.ip4Len (bl s)).toNat) (Sp.sum ((bl s).take (Sp.ip4Len (bl s)).toNat)) W (by rw [cksum_Sum_eq (by rw [ByteArray.size_extract]; omega), bl_extract, List.drop_zero])
 have HO := fun W => (ip4_OptsRight.calls (s.extract 20 (Sp.ip4Len (bl s)).toNat) (Sp.optsOk (((bl s).take (Sp.ip4Len (bl s)).toNat).drop 20)) W (by rw [ip4_OptsRight_eq (by rw [ByteArray.size_extract]; omega), bl_extract])).mono (fun e w' h => And.intro h.1 h.2.below)
 rw [e1, e2] at HZ
 by_cases hc : Sp.sum ((bl s).take (Sp.ip4Len (bl s)).toNat) = 65535
 ·by_cases ho : Sp.optsOk (((bl s).take (Sp.ip4Len (bl s)).toNat).drop 20) = true
  ·have h := ip4_parse_ok s w hs _ _ _ HZ h0 z3 z5 (by omega) _ HC hc _ HO ho
   have e : Sp.ip4Parse (bl s) = Sp.ip4Fields (bl s) (Sp.ip4Len (bl s)) (Sp.ip4Tot (bl s)) := by unfold Sp.ip4Parse; rw [if_pos h0, if_pos hc, if_pos ho]
   rw [hx 20, hx, i4_and (i4_small _ _ _), Int.emod_eq_of_lt (i4_small (bl s) 12 4).1 (i4_small (bl s) 12 4).2, Int.emod_eq_of_lt (i4_small (bl s) 16 4).1 (i4_small (bl s) 16 4).2] at h
   rw [e]; exact h
  have h := ip4_parse_opts s w hs _ _ _ HZ h0 z3 z5 (by omega) _ HC hc _ HO (Sp.bool_no ho)
  have e : Sp.ip4Parse (bl s) = Sp.ip4None 6 := by unfold Sp.ip4Parse; rw [if_pos h0, if_pos hc, if_neg ho]
  rw [e]; exact h
 have h := ip4_parse_sum s w hs _ _ _ HZ h0 z3 z5 (by omega) _ HC hc
 have e : Sp.ip4Parse (bl s) = Sp.ip4None 7 := by unfold Sp.ip4Parse; rw [if_pos h0, if_neg hc]
 rw [e]; exact h
def ip4_Parse.f (a0 : ByteArray) : Option (Int × Int × Int × Int × Int × Int × Int × Int × ByteArray × ByteArray × Int) := if a0.size ≤ 140737488355328 then some ((Sp.ip4Parse (bl a0)).tos, (Sp.ip4Parse (bl a0)).id, (Sp.ip4Parse (bl a0)).flags, (Sp.ip4Parse (bl a0)).frag, (Sp.ip4Parse (bl a0)).ttl, (Sp.ip4Parse (bl a0)).proto, (Sp.ip4Parse (bl a0)).src, (Sp.ip4Parse (bl a0)).dst, lb (Sp.ip4Parse (bl a0)).opts, lb (Sp.ip4Parse (bl a0)).body, (Sp.ip4Parse (bl a0)).e) else none
theorem ip4_Parse_eq {a0 : ByteArray} (h : a0.size ≤ 140737488355328) : ip4_Parse.f a0 = some ((Sp.ip4Parse (bl a0)).tos, (Sp.ip4Parse (bl a0)).id, (Sp.ip4Parse (bl a0)).flags, (Sp.ip4Parse (bl a0)).frag, (Sp.ip4Parse (bl a0)).ttl, (Sp.ip4Parse (bl a0)).proto, (Sp.ip4Parse (bl a0)).src, (Sp.ip4Parse (bl a0)).dst, lb (Sp.ip4Parse (bl a0)).opts, lb (Sp.ip4Parse (bl a0)).body, (Sp.ip4Parse (bl a0)).e) := by unfold ip4_Parse.f; exact if_pos h
theorem ip4_Parse.calls (a0 : ByteArray) (r1 : Int) (r2 : Int) (r3 : Int) (r4 : Int) (r5 : Int) (r6 : Int) (r7 : Int) (r8 : Int) (r9 : ByteArray) (r10 : ByteArray) (r11 : Int) (w : World) (h : ip4_Parse.f a0 = some (r1, r2, r3, r4, r5, r6, r7, r8, r9, r10, r11)) :
  Calls Tryz.prog 56 #[.string a0] w fun e w' => e = .returned (.tuple #[.agg #[.int .i64 r1, .int .i64 r2, .int .i64 r3, .int .i64 r4, .int .i64 r5, .int .i64 r6, .int .u32 r7, .int .u32 r8, .string r9], .string r10, .int .i64 r11]) ∧ Below w.heap.size w w' := by
 unfold ip4_Parse.f at h
 split at h
 case isFalse => cases h
 case isTrue hs =>
  have h := Option.some.inj h
  simp only [Prod.mk.injEq] at h
  obtain ⟨rfl, rfl, rfl, rfl, rfl, rfl, rfl, rfl, rfl, rfl, rfl⟩ := h
  exact ip4_parse_any a0 hs w

/-! ### ip4_Size: function 57 -/
def ip4_Size.f (a0 : ByteArray) : Option (Int × Int × Bool) := (ip4_sizes.f a0).bind fun bt265 => (some (bt265.1, bt265.2.1, (bt265.2.2 == 0)))
set_option maxHeartbeats 8000000 in
set_option maxRecDepth 100000 in
theorem ip4_Size.calls (a0 : ByteArray) (r1 : Int) (r2 : Int) (r3 : Bool) (w : World) (h : ip4_Size.f a0 = some (r1, r2, r3)) :
  Calls Tryz.prog 57 #[.string a0] w fun e w' => e = .returned (.tuple #[.int .i64 r1, .int .i64 r2, .bool r3]) ∧ Below w.heap.size w w' := by
 have HB := AA (Below.refl w.heap.size w)
 have H : ((ip4_sizes.f a0).bind fun bt265 => (some (bt265.1, bt265.2.1, (bt265.2.2 == 0)))) = some (r1, r2, r3) := h
 clear h
 replace H := OB H
 obtain ⟨⟨t265, t266, t267⟩, A2, H⟩ := H
 (try set_option simprocs false in dsimp only at H)
 simp only [Option.some.injEq, Prod.mk.injEq] at H
 obtain ⟨rfl, rfl, rfl⟩ := H
 go_enter Tryz.func57, Tryz.ntmps57
 go_wp2_with (first | ((with_reducible refine gkx 77 rfl ?_); refine gL 8 Tryz.func77 rfl (ip4_sizes.calls a0 t265 t266 t267 _ A2.out) ?_; rintro w3 hb; (try clear A2); replace HB := BS HB hb; (try clear hb)))
 go_ret3
 exact ⟨RT, BW HB⟩

end Go.Proofs.YtfnjohklmpiboaaGreat.Pr
