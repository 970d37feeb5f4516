-- Written by a program of the session (wip/tools) out of the translation, over the kit's print; with pieces of the session's own.
import Derived.Test.YtfnjohklmpiboaaGreatPr0
import Derived.Test.YtfnjohklmpiboaaGreatPr10
namespace Go.Proofs.YtfnjohklmpiboaaGreat.Pr
open Go.RowKit Go.Proofs.YtfnjohklmpiboaaGreatW.PrintWords Go.Proofs.YtfnjohklmpiboaaGreatW.PrintLast Go.Proofs.YtfnjohklmpiboaaGreatW.PrintMore
attribute [local go_sem] max2_int min2_int max_two min_two max_three min_three max_four min_four   -- for this text's walks alone
set_option linter.unusedVariables false
set_option linter.unusedSimpArgs false
open Go.Proofs.YtfnjohklmpiboaaGreat.Sp
/-! ### tcp_OptsRight_p: function 102 -/
mutual
def tcp_OptsRight_p.l0 : Nat → ByteArray → Int → Option (Bool)
 | 0, _, _ => none
 | k + 1, x0, x3 => if x3 < (x0.size : Int) then (if 0 ≤ x3 then (tcp_OptsRight_p.j1 k x0 x3 ((bt x0 x3) != 0)) else (none)) else (tcp_OptsRight_p.j1 k x0 x3 false)
def tcp_OptsRight_p.j1 : Nat → ByteArray → Int → Bool → Option (Bool)
 | 0, _, _, _ => none
 | k + 1, x0, x3, x16 => if x16 = true then (if 0 ≤ x3 then (if x3 < (x0.size : Int) then (if (bt x0 x3) = 1 then (tcp_OptsRight_p.l0 k x0 (wrap64 (x3 + 1))) else ((octet_Get.f x0 (wrap64 (x3 + 1)) 1).bind fun bt284 => (if bt284.2 = true then (if bt284.1 < 2 then (some false) else (if bt284.1 > (wrap64 ((x0.size : Int) - x3)) then (some false) else (tcp_OptsRight_p.l0 k x0 (wrap64 (x3 + bt284.1))))) else (some false)))) else (none)) else (none)) else (some true)
end
def tcp_OptsRight_p.f (k : Nat) (a0 : ByteArray) : Option (Bool) := tcp_OptsRight_p.l0 k a0 0
theorem tcp_OptsRight_p.mono_l : ∀ k, (∀ y0 y1, LeO (tcp_OptsRight_p.l0 k y0 y1) (tcp_OptsRight_p.l0 (k + 1) y0 y1)) ∧ (∀ y0 y1 y2, LeO (tcp_OptsRight_p.j1 k y0 y1 y2) (tcp_OptsRight_p.j1 (k + 1) y0 y1 y2))
 | 0 => ⟨fun _ _ r h => by simp [tcp_OptsRight_p.l0] at h, fun _ _ _ r h => by simp [tcp_OptsRight_p.j1] at h⟩
 | k + 1 => by
  obtain ⟨ih0, ih1⟩ := tcp_OptsRight_p.mono_l k
  refine ⟨?_, ?_⟩
  ·intro y0 y1
   unfold tcp_OptsRight_p.l0
   repeat' first
   | (with_reducible exact ih0 _ _)
   | (with_reducible exact ih1 _ _ _)
   | (with_reducible exact LeO.refl _)
   | (with_reducible exact LeO.none _)
   | (with_reducible refine LeO.ite ?_ ?_)
   | (with_reducible refine LeO.bind ?_ (fun _ => ?_))
   | exact ih0 _ _
   | exact ih1 _ _ _
   | exact LeO.none _
   | refine LeO.ite ?_ ?_
   | refine LeO.bind ?_ (fun _ => ?_)
  ·intro y0 y1 y2
   unfold tcp_OptsRight_p.j1
   repeat' first
   | (with_reducible exact ih0 _ _)
   | (with_reducible exact ih1 _ _ _)
   | (with_reducible exact LeO.refl _)
   | (with_reducible exact LeO.none _)
   | (with_reducible refine LeO.ite ?_ ?_)
   | (with_reducible refine LeO.bind ?_ (fun _ => ?_))
   | exact ih0 _ _
   | exact ih1 _ _ _
   | exact LeO.none _
   | refine LeO.ite ?_ ?_
   | refine LeO.bind ?_ (fun _ => ?_)
theorem tcp_OptsRight_p.mono : ∀ a0 k, LeO (tcp_OptsRight_p.f k a0) (tcp_OptsRight_p.f (k + 1) a0) := by
 intro a0 k
 obtain ⟨ih0, ih1⟩ := tcp_OptsRight_p.mono_l k
 unfold tcp_OptsRight_p.f
 repeat' first
   | (with_reducible exact ih0 _ _)
   | (with_reducible exact ih1 _ _ _)
   | (with_reducible exact LeO.refl _)
   | (with_reducible exact LeO.none _)
   | (with_reducible refine LeO.ite ?_ ?_)
   | (with_reducible refine LeO.bind ?_ (fun _ => ?_))
   | exact ih0 _ _
   | exact ih1 _ _ _
   | exact LeO.none _
   | refine LeO.ite ?_ ?_
   | refine LeO.bind ?_ (fun _ => ?_)
set_option maxHeartbeats 8000000 in
set_option maxRecDepth 100000 in
theorem tcp_OptsRight_p.calls (k : Nat) (a0 : ByteArray) (r : Bool) (w : World) (h : tcp_OptsRight_p.f k a0 = some r) :
  Calls Tryz.prog 102 #[.string a0] w fun e w' => e = .returned (.bool r) ∧ Below w.heap.size w w' := by
 have HB := AA (Below.refl w.heap.size w)
 have H : (tcp_OptsRight_p.l0 k a0 0) = some r := h
 clear h
 have H' := AA H
 clear H
 go_enter Tryz.func102, Tryz.ntmps102
 go_wp2
 go_loopg [3] k (fun kq v3 w' => ∃ (x3_1 : Int), v3 = .int .i64 x3_1 ∧ Aside0 (tcp_OptsRight_p.l0 kq a0 x3_1 = some r) ∧ Aside0 (kq ≤ k) ∧ Aside0 (Below w.heap.size w w'))
 case atStart => exact ⟨(0), (RS), H', ⟨Nat.le_refl _⟩, ⟨BW HB⟩⟩
 case round =>
  clear H'
  try clear c1
  obtain ⟨x3_1, rfl, HA, HK1, HB⟩ := hrel
  cases gk with
  | zero => exact absurd HA.out (by simp [tcp_OptsRight_p.l0])
  | succ k1 =>
   have H := HA.out
   clear HA
   simp only [tcp_OptsRight_p.l0] at H
   have HC2 := AA H
   clear H
   go_upto_region 2 with (fail)
   go_cut [16] (fun v16 wc => ∃ (kq : Nat) (x16_1 : Bool), v16 = .bool x16_1 ∧ Aside0 (tcp_OptsRight_p.j1 kq a0 x3_1 x16_1 = some r) ∧ Aside0 (kq ≤ k1) ∧ Aside0 (Below w.heap.size w wc))
   case first =>
    have H := HC2.out
    clear HC2
    by_cases c3 : x3_1 < (a0.size : Int)
    ·rw [if_pos c3] at H
     have c3b0 := decide_eq_true c3
     clear c3
     (first | rw [c3b0] | (simp only [i64_w, i32_w]; rw [c3b0]) | skip)
     by_cases c4 : 0 ≤ x3_1
     ·rw [if_pos c4] at H
      have c4b0 := decide_eq_true c4
      clear c4
      have H' := AA H
      clear H
      have p5 : 0 ≤ (x3_1 : Int) := DA
      have q5 : x3_1 < (a0.size : Int) := DA
      have hx5 := bt_at a0 x3_1
      replace p5 := eq_true p5
      replace q5 := eq_true q5
      go_wp2
      go_meet
      case rel => exact ⟨_, (((bt a0 x3_1) != 0)), QS, H', ⟨by have := HK1.out; first | omega | exact Nat.le_refl _⟩, ⟨BW HB⟩⟩
     rw [if_neg c4] at H
     exact absurd H (by simp)
    rw [if_neg c3] at H
    have c3b0 := decide_eq_false c3
    clear c3
    (first | rw [c3b0] | (simp only [i64_w, i32_w]; rw [c3b0]) | skip)
    have H' := AA H
    clear H
    go_wp2
    go_meet
    case rel => exact ⟨_, (false), QS, H', ⟨by have := HK1.out; first | omega | exact Nat.le_refl _⟩, ⟨BW HB⟩⟩
   case rest =>
    clear HC2
    try clear c1; try clear p2; try clear c3; try clear c3b0; try clear c4; try clear c4b0; try clear p5; try clear q5; try clear hx5; try clear p5; try clear q5
    obtain ⟨kq, x16_1, rfl, HA, HJ1, HB⟩ := hcut
    cases kq with
    | zero => exact absurd HA.out (by simp [tcp_OptsRight_p.j1])
    | succ kj1 =>
     have H := HA.out
     clear HA
     simp only [tcp_OptsRight_p.j1] at H
     by_cases c6 : x16_1 = true
     rotate_left
     ·replace c6 := Bool.eq_false_iff.mpr c6
      subst c6
      replace H := IFN H
      obtain rfl := Option.some.inj H
      go_wp2
      go_ret
      exact ⟨RT, BW HB⟩
     subst c6
     first | rw [if_pos rfl] at H | rw [if_pos trivial] at H
     replace H := IT H
     obtain ⟨c7, H⟩ := H
     have c7b0 := decide_eq_true c7
     clear c7
     replace H := IT H
     obtain ⟨c8, H⟩ := H
     have c8b0 := decide_eq_true c8
     clear c8
     by_cases c10 : (bt a0 x3_1) = 1
     ·rw [if_pos c10] at H
      have c10b0 := BT c10
      have c10b1 := NF c10
      clear c10
      have H' := AA H
      clear H
      have p9 : 0 ≤ (x3_1 : Int) := DA
      have q9 : x3_1 < (a0.size : Int) := DA
      have hx9 := bt_at a0 x3_1
      replace p9 := eq_true p9
      replace q9 := eq_true q9
      go_wp2
      go_roundg kj1
      case measure => have := HK1.out; have := HJ1.out; omega
      case rel => exact ⟨(wrap64 (x3_1 + 1)), QS, H', ⟨by have := HK1.out; have := HJ1.out; omega⟩, ⟨BW HB⟩⟩
     rw [if_neg c10] at H
     have c10b0 := BF c10
     have c10b1 := NT c10
     replace H := OB H
     obtain ⟨⟨t284, t285⟩, A11, H⟩ := H
     (try set_option simprocs false in dsimp only at H)
     by_cases c12 : t285 = true
     rotate_left
     ·replace c12 := Bool.eq_false_iff.mpr c12
      subst c12
      replace H := IFN H
      obtain rfl := Option.some.inj H
      have p9 : 0 ≤ (x3_1 : Int) := DA
      have q9 : x3_1 < (a0.size : Int) := DA
      have hx9 := bt_at a0 x3_1
      replace p9 := eq_true p9
      replace q9 := eq_true q9
      go_wp2_with (first | ((with_reducible refine gkx 41 rfl ?_); refine gL 25 Tryz.func41 rfl (octet_Get.calls a0 (wrap64 (x3_1 + 1)) 1 t284 false _ A11.out) ?_; rintro w18 hb; (try clear A11); replace HB := BS HB hb; (try clear hb)))
      go_ret
      exact ⟨RT, BW HB⟩
     subst c12
     first | rw [if_pos rfl] at H | rw [if_pos trivial] at H
     by_cases c13 : t284 < 2
     ·rw [if_pos c13] at H
      have c13b0 := decide_eq_true c13
      clear c13
      obtain rfl := Option.some.inj H
      have p9 : 0 ≤ (x3_1 : Int) := DA
      have q9 : x3_1 < (a0.size : Int) := DA
      have hx9 := bt_at a0 x3_1
      replace p9 := eq_true p9
      replace q9 := eq_true q9
      go_wp2_with (first | ((with_reducible refine gkx 41 rfl ?_); refine gL 25 Tryz.func41 rfl (octet_Get.calls a0 (wrap64 (x3_1 + 1)) 1 t284 true _ A11.out) ?_; rintro w14 hb; (try clear A11); replace HB := BS HB hb; (try clear hb)))
      go_ret
      exact ⟨RT, BW HB⟩
     rw [if_neg c13] at H
     have c13b0 := decide_eq_false c13
     clear c13
     by_cases c15 : t284 > (wrap64 ((a0.size : Int) - x3_1))
     ·rw [if_pos c15] at H
      have c15b0 : decide ((wrap64 ((a0.size : Int) - x3_1)) < t284) = true := decide_eq_true c15
      clear c15
      obtain rfl := Option.some.inj H
      have p9 : 0 ≤ (x3_1 : Int) := DA
      have q9 : x3_1 < (a0.size : Int) := DA
      have hx9 := bt_at a0 x3_1
      replace p9 := eq_true p9
      replace q9 := eq_true q9
      go_wp2_with (first | ((with_reducible refine gkx 41 rfl ?_); refine gL 25 Tryz.func41 rfl (octet_Get.calls a0 (wrap64 (x3_1 + 1)) 1 t284 true _ A11.out) ?_; rintro w16 hb; (try clear A11); replace HB := BS HB hb; (try clear hb)))
      go_ret
      exact ⟨RT, BW HB⟩
     rw [if_neg c15] at H
     have c15b0 : decide ((wrap64 ((a0.size : Int) - x3_1)) < t284) = false := decide_eq_false c15
     clear c15
     have H' := AA H
     clear H
     have p9 : 0 ≤ (x3_1 : Int) := DA
     have q9 : x3_1 < (a0.size : Int) := DA
     have hx9 := bt_at a0 x3_1
     replace p9 := eq_true p9
     replace q9 := eq_true q9
     go_wp2_with (first | ((with_reducible refine gkx 41 rfl ?_); refine gL 25 Tryz.func41 rfl (octet_Get.calls a0 (wrap64 (x3_1 + 1)) 1 t284 true _ A11.out) ?_; rintro w17 hb; (try clear A11); replace HB := BS HB hb; (try clear hb)))
     go_roundg kj1
     case measure => have := HK1.out; have := HJ1.out; omega
     case rel => exact ⟨(wrap64 (x3_1 + t284)), QS, H', ⟨by have := HK1.out; have := HJ1.out; omega⟩, ⟨BW HB⟩⟩

theorem bt_bln {s : ByteArray} {i : Nat} (h : i < (bl s).length) : bt s (i : Int) = (((bl s)[i]'h).toNat : Int) := by
 have h' : ((i : Int)).toNat < s.size := by rw [← bl_length]; omega
 unfold bt; rw [dif_pos h']; rfl
theorem beNum_one1 (l : List UInt8) (a : Nat) (h : a < l.length) : Sp.beNum ((l.drop a).take 1) = ((l[a]'h).toNat : Int) := by
 rw [List.drop_eq_getElem_cons h, List.take_succ_cons, List.take_zero]
 show (0 : Int) * 256 + _ = _
 omega
def tcp_OptsRight.f (a0 : ByteArray) : Option Bool := if a0.size ≤ 140737488355328 then some (Sp.optsOk (bl a0)) else none
theorem tcp_OptsRight_eq {a0 : ByteArray} (h : a0.size ≤ 140737488355328) : tcp_OptsRight.f a0 = some (Sp.optsOk (bl a0)) := by unfold tcp_OptsRight.f; exact if_pos h
theorem tcp_opts_end (s : ByteArray) (k : Nat) : tcp_OptsRight_p.l0 (k + 1 + 1) s (s.size : Int) = some (Sp.optsOk ((bl s).drop s.size)) := by
 rw [tcp_OptsRight_p.l0, if_neg (by omega), tcp_OptsRight_p.j1, if_neg (by decide), List.drop_eq_nil_of_le (by rw [bl_length]; exact Nat.le_refl _)]; rfl
theorem tcp_opts_loop (s : ByteArray) (hs : s.size ≤ 140737488355328) : ∀ (n i : Nat), s.size - i ≤ n → i ≤ s.size → ∀ k, 2 * n + 2 ≤ k → tcp_OptsRight_p.l0 k s (i : Int) = some (Sp.optsOk ((bl s).drop i)) := by
 intro n
 induction n with
 | zero =>
  intro i h1 h2 k hk
  obtain ⟨k, rfl⟩ : ∃ k', k = k' + 1 + 1 := ⟨k - 2, by omega⟩
  obtain rfl : i = s.size := by omega
  exact tcp_opts_end s k
 | succ n ih =>
  intro i h1 h2 k hk
  obtain ⟨k, rfl⟩ : ∃ k', k = k' + 1 + 1 := ⟨k - 2, by omega⟩
  by_cases hi : i = s.size
  ·subst hi; exact tcp_opts_end s k
  have hl : i < (bl s).length := by rw [bl_length]; omega
  have hb := bt_bln hl
  have hx := ((bl s)[i]'hl).toNat_lt
  rw [tcp_OptsRight_p.l0, if_pos (by omega), if_pos (by omega), tcp_OptsRight_p.j1, Sp.opts_at _ _ hl]
  by_cases h0 : (bl s)[i] = 0
  ·have e : bt s (i : Int) = 0 := by rw [hb, h0]; rfl
   rw [if_pos h0, e]; rfl
  have e : bt s (i : Int) ≠ 0 := by
   rw [hb]; intro h; exact h0 (UInt8.toNat_inj.1 (by show _ = 0; omega))
  rw [if_neg h0, if_pos (by simpa using e), if_pos (by omega), if_pos (by omega)]
  by_cases h3 : (bl s)[i] = 1
  ·have e1 : bt s (i : Int) = 1 := by rw [hb, h3]; rfl
   rw [if_pos h3, if_pos e1, wrap_id (by omega) (by omega)]
   have := ih (i + 1) (by omega) (by omega) k (by omega)
   rwa [show (((i + 1 : Nat)) : Int) = (i : Int) + 1 by omega] at this
  have e1 : ¬ bt s (i : Int) = 1 := by
   rw [hb]; intro h; exact h3 (UInt8.toNat_inj.1 (by show _ = 1; omega))
  rw [if_neg h3, if_neg e1, wrap_id (n := (i : Int) + 1) (by omega) (by omega), octet_Get_eq _ _ _ (by omega), Option.bind_some]
  by_cases h4 : i + 1 < (bl s).length
  rotate_left
  ·rw [dif_neg h4, Sp.get_no (Sp.has_no (by omega)), if_neg (by decide)]
  have g : Sp.get (bl s) ((i : Int) + 1) 1 = ((((bl s)[i + 1]'h4).toNat : Int), true) := by
   have := Sp.get1 (bl s) (i + 1) (by omega)
   rw [beNum_one1 _ _ h4] at this
   rwa [show (((i + 1 : Nat)) : Int) = (i : Int) + 1 by omega] at this
  have hy := ((bl s)[i + 1]'h4).toNat_lt
  rw [dif_pos h4, g, if_pos rfl]
  simp only
  have h4' := h4
  rw [bl_length] at h4'
  have ih2 : ∀ y : Nat, 2 ≤ y → i + y ≤ s.size → tcp_OptsRight_p.l0 k s ((i : Int) + (y : Int)) = some (Sp.optsOk ((bl s).drop (i + y))) := fun y y2 hy2 => by
   have := ih (i + y) (by omega) (by omega) k (by omega)
   rwa [show (((i + y : Nat)) : Int) = (i : Int) + (y : Int) by omega] at this
  have hln := bl_length s
  clear g ih
  revert hy
  generalize UInt8.toNat _ = y
  intro hy
  by_cases h5 : y < 2
  ·rw [if_pos (by omega), if_pos (Or.inl h5)]
  rw [if_neg (by omega), wrap_id (n := (s.size : Int) - (i : Int)) (by omega) (by omega)]
  by_cases h6 : i + y > s.size
  ·rw [if_pos (by omega), if_pos (Or.inr (by omega))]
  rw [if_neg (by omega), if_neg (by omega), wrap_id (by omega) (by omega)]
  exact ih2 y (by omega) (by omega)
theorem tcp_OptsRight_ev (a0 : ByteArray) (r : Bool) (h : tcp_OptsRight.f a0 = some r) : ∃ k, tcp_OptsRight_p.f k a0 = some r := by
 unfold tcp_OptsRight.f at h
 split at h
 case isFalse => cases h
 case isTrue hs =>
  refine ⟨2 * a0.size + 2, ?_⟩
  rw [← h]
  unfold tcp_OptsRight_p.f
  exact tcp_opts_loop a0 hs a0.size 0 (by omega) (by omega) _ (by omega)
theorem tcp_OptsRight.calls (a0 : ByteArray) (r : Bool) (w : World) (h : tcp_OptsRight.f a0 = some r) :
  Calls Tryz.prog 102 #[.string a0] w fun e w' => e = .returned (.bool r) ∧ Below w.heap.size w w' := by
 obtain ⟨k, hk⟩ := tcp_OptsRight_ev a0 _ h
 exact tcp_OptsRight_p.calls k a0 r w hk

/-! ### tcp_Parse: function 91 -/
set_option maxRecDepth 100000 in
set_option maxHeartbeats 4000000 in
theorem tcp_parse_short (s : ByteArray) (w : World) (h : s.size < 20) : Calls Tryz.prog 91 #[.string s] w fun e w' => e = .returned (.tuple #[.agg #[.int .i64 0, .int .i64 0, .int .u32 0, .int .u32 0, .int .i64 0, .int .i64 0, .int .i64 0, .string ⟨#[]⟩], .string ⟨#[]⟩, .int .i64 2]) ∧ Below w.heap.size w w' := by
 have c2b1 : decide (s.size < 20) = true := decide_eq_true (by omega)
 go_enter Tryz.func91, Tryz.ntmps91
 go_wp2_with (fail)
 refine bodyPost_ret (results_ctt rfl _ _ w.heap.size 134 #[.int .i64 0, .int .i64 0, .int .u32 0, .int .u32 0, .int .i64 0, .int .i64 0, .int .i64 0, .string ⟨#[]⟩] (0, 0) _ rfl ?_ Tryz.underlying134 rfl (by kernel_rfl)) rfl ?_
 ·exact World.alloc_heap_new w _
 exact ⟨rfl, below_alloc (Below.refl _ _) _⟩
def zeroH : Array Value := #[.int .i64 0, .int .i64 0, .int .u32 0, .int .u32 0, .int .i64 0, .int .i64 0, .int .i64 0, .string ⟨#[]⟩]
set_option maxRecDepth 100000 in
set_option maxHeartbeats 4000000 in
theorem tcp_parse_header (s : ByteArray) (w : World) (h : ¬ s.size < 20) (sz : Int) (hsz : wrap64 (wrap64 (bt s 12 / 16) * 4) = sz) (hh : sz < 20 ∨ sz > s.size) : Calls Tryz.prog 91 #[.string s] w fun e w' => e = .returned (.tuple #[.agg #[.int .i64 0, .int .i64 0, .int .u32 0, .int .u32 0, .int .i64 0, .int .i64 0, .int .i64 0, .string ⟨#[]⟩], .string ⟨#[]⟩, .int .i64 4]) ∧ Below w.heap.size w w' := by
 have c2b1 : decide (s.size < 20) = false := decide_eq_false (by omega)
 have c2b0 : decide ((s.size : Int) < 20) = false := decide_eq_false (by omega)
 have c5b1 : decide (12 < s.size) = true := decide_eq_true (by omega)
 have c5b0 : decide (12 < (s.size : Int)) = true := decide_eq_true (by omega)
 have hbt : ∀ h : 12 < s.size, ((s[12]'h).toNat : Int) = bt s 12 := fun h => bt_at s 12 h
 by_cases h1 : sz < 20
 ·have d1 : decide (sz < 20) = true := decide_eq_true h1
  go_enter Tryz.func91, Tryz.ntmps91
  go_wp2_with (fail)
  refine bodyPost_ret (results_ctt rfl _ _ w.heap.size 134 #[.int .i64 0, .int .i64 0, .int .u32 0, .int .u32 0, .int .i64 0, .int .i64 0, .int .i64 0, .string ⟨#[]⟩] (0, 0) _ rfl ?_ Tryz.underlying134 rfl (by kernel_rfl)) rfl ?_
  ·exact World.alloc_heap_new w _
  exact ⟨rfl, below_alloc (Below.refl _ _) _⟩
 have d1 : decide (sz < 20) = false := decide_eq_false h1
 have d2 : decide (sz > (s.size : Int)) = true := decide_eq_true (by omega)
 have d3 : decide ((s.size : Int) < sz) = true := decide_eq_true (by omega)
 go_enter Tryz.func91, Tryz.ntmps91
 go_wp2_with (fail)
 refine bodyPost_ret (results_ctt rfl _ _ w.heap.size 134 #[.int .i64 0, .int .i64 0, .int .u32 0, .int .u32 0, .int .i64 0, .int .i64 0, .int .i64 0, .string ⟨#[]⟩] (0, 0) _ rfl ?_ Tryz.underlying134 rfl (by kernel_rfl)) rfl ?_
 ·exact World.alloc_heap_new w _
 exact ⟨rfl, below_alloc (Below.refl _ _) _⟩
theorem opts_any (s : ByteArray) (hs : s.size ≤ 140737488355328) (w : World) : Calls Tryz.prog 102 #[.string s] w fun e w' => e = .returned (.bool (Sp.optsOk (bl s))) ∧ Below w.heap.size w w' :=
 tcp_OptsRight.calls s _ w (tcp_OptsRight_eq hs)
theorem get_any (s : ByteArray) (hs : s.size ≤ 281474976710656) (a b : Int) (w : World) : Calls Tryz.prog 41 #[.string s, .int .i64 a, .int .i64 b] w fun e w' => e = .returned (.tuple #[.int .i64 (Sp.get (bl s) a b).1, .bool (Sp.get (bl s) a b).2]) ∧ Below w.heap.size w w' :=
 octet_Get.calls s a b _ _ w (octet_Get_eq s a b hs)
theorem heap_step' {W W' : World} {x : Obj} {B : Nat} (h : W.heap[B]? = some x) (hb : Below W.heap.size W W') : W'.heap[B]? = some x := by
 rw [hb.block _ (Array.getElem?_eq_some_iff.1 h).1]; exact h
theorem row_free {W : World} {B i : Nat} {cs : Array Value} {t : TypeId} (h : W.heap[B]? = some (.cells cs t (0, 0))) : W.frozen? ⟨B, i, none⟩ = false := by
 simp [World.frozen?, h]
theorem heap_alloc' {W : World} {x : Obj} {B : Nat} (o : Obj) (h : W.heap[B]? = some x) : (W.alloc o).heap[B]? = some x := by
 have hl := (Array.getElem?_eq_some_iff.1 h).1
 simp only [World.alloc, Array.getElem?_push]
 rw [if_neg (by omega)]; exact h
set_option maxRecDepth 100000 in
set_option maxHeartbeats 4000000 in
theorem tcp_parse_opts (s : ByteArray) (w : World) (hs : s.size ≤ 140737488355328) (h : ¬ s.size < 20) (sz : Int) (hsz : wrap64 (wrap64 (bt s 12 / 16) * 4) = sz) (h1 : 20 ≤ sz) (h2 : sz ≤ s.size) (ho : Sp.optsOk (bl (s.extract 20 sz.toNat)) = false) : Calls Tryz.prog 91 #[.string s] w fun e w' => e = .returned (.tuple #[.agg #[.int .i64 0, .int .i64 0, .int .u32 0, .int .u32 0, .int .i64 0, .int .i64 0, .int .i64 0, .string ⟨#[]⟩], .string ⟨#[]⟩, .int .i64 6]) ∧ Below w.heap.size w w' := by
 have c2b1 : decide (s.size < 20) = false := decide_eq_false (by omega)
 have c2b0 : decide ((s.size : Int) < 20) = false := decide_eq_false (by omega)
 have c5b1 : decide (12 < s.size) = true := decide_eq_true (by omega)
 have c5b0 : decide (12 < (s.size : Int)) = true := decide_eq_true (by omega)
 have hbt : ∀ h : 12 < s.size, ((s[12]'h).toNat : Int) = bt s 12 := fun h => bt_at s 12 h
 have d1 : decide (sz < 20) = false := decide_eq_false (by omega)
 have d2 : decide (sz > (s.size : Int)) = false := decide_eq_false (by omega)
 have d3 : decide ((s.size : Int) < sz) = false := decide_eq_false (by omega)
 have H := fun W => opts_any (s.extract 20 sz.toNat) (by rw [ByteArray.size_extract]; omega) W
 rw [ho] at H
 have HO := Lib.hid ho
 clear ho
 go_enter Tryz.func91, Tryz.ntmps91
 go_wp2_with (fail)
 refine (H _).mono ?_
 rintro e w1 ⟨rfl, hb⟩
 have hr := heap_step' (World.alloc_heap_new w _) hb
 have hB := below_step (below_alloc (Below.refl _ _) _) hb
 clear hb H
 have x0 := fun (i : Nat) (v : Value) (h : zeroH[i]? = some v) => (cell_of_row w1 w.heap.size i zeroH 134 (0, 0) hr).trans h
 have z0 := fun (i : Nat) => row_free (i := i) hr
 have y0 := x0 0 (.int .i64 0) rfl
 have y1 := x0 1 (.int .i64 0) rfl
 have y2 := x0 2 (.int .u32 0) rfl
 have y3 := x0 3 (.int .u32 0) rfl
 have y4 := x0 4 (.int .i64 0) rfl
 have y5 := x0 5 (.int .i64 0) rfl
 have y6 := x0 6 (.int .i64 0) rfl
 have y7 := x0 7 (.string ⟨#[]⟩) rfl
 have v0 := z0 0
 have v1 := z0 1
 have v2 := z0 2
 have v3 := z0 3
 have v4 := z0 4
 have v5 := z0 5
 have v6 := z0 6
 have v7 := z0 7
 have HR := Lib.hid hr
 have HBB := Lib.hid hB
 clear x0 z0 hr hB
 go_wp2_with (fail)
 refine bodyPost_ret (results_ctt rfl _ _ w.heap.size 134 zeroH (0, 0) _ rfl ?_ Tryz.underlying134 rfl (by kernel_rfl)) rfl ?_
 ·refine blk_put (cs := zeroH) ?_ 7 _ rfl
  refine blk_put (cs := zeroH) ?_ 6 _ rfl
  refine blk_put (cs := zeroH) ?_ 5 _ rfl
  refine blk_put (cs := zeroH) ?_ 4 _ rfl
  refine blk_put (cs := zeroH) ?_ 3 _ rfl
  refine blk_put (cs := zeroH) ?_ 2 _ rfl
  refine blk_put (cs := zeroH) ?_ 1 _ rfl
  refine blk_put (cs := zeroH) ?_ 0 _ rfl
  exact HR.out
 refine ⟨rfl, ?_⟩
 repeat (refine below_set ?_ (Nat.le_refl _))
 exact HBB.out
theorem below_stepB {w W W' : World} {B : Nat} (e : w.heap.size = B) (h : Below B w W) (hb : Below W.heap.size W W') : Below B w W' := by subst e; exact below_step h hb
theorem heap_drew {W : World} {x : Obj} {B : Nat} (h : W.heap[B]? = some x) : W.drew.heap[B]? = some x := h
set_option maxRecDepth 100000 in
set_option maxHeartbeats 4000000 in
theorem tcp_parse_long (s : ByteArray) (w : World) (hs : s.size ≤ 140737488355328) (h : ¬ s.size < 20) (sz : Int) (hsz : wrap64 (wrap64 (bt s 12 / 16) * 4) = sz) (h1 : 20 ≤ sz) (h2 : sz ≤ s.size) (ho : Sp.optsOk (bl (s.extract 20 sz.toNat)) = true) : Calls Tryz.prog 91 #[.string s] w fun e w' => e = .returned (.tuple #[.agg #[.int .i64 (Sp.get (bl s) 0 2).1, .int .i64 (Sp.get (bl s) 2 2).1, .int .u32 (IntKind.u32.wrap (Sp.get (bl s) 4 4).1), .int .u32 (IntKind.u32.wrap (Sp.get (bl s) 8 4).1), .int .i64 (Go.bits .and .i64 (Sp.get (bl s) 12 2).1 4095), .int .i64 (Sp.get (bl s) 14 2).1, .int .i64 (Sp.get (bl s) 18 2).1, .string (s.extract 20 sz.toNat)], .string (s.extract sz.toNat s.size), .int .i64 0]) ∧ Below w.heap.size w w' := by
 have c2b1 : decide (s.size < 20) = false := decide_eq_false (by omega)
 have c2b0 : decide ((s.size : Int) < 20) = false := decide_eq_false (by omega)
 have c5b1 : decide (12 < s.size) = true := decide_eq_true (by omega)
 have c5b0 : decide (12 < (s.size : Int)) = true := decide_eq_true (by omega)
 have hbt : ∀ h : 12 < s.size, ((s[12]'h).toNat : Int) = bt s 12 := fun h => bt_at s 12 h
 have d1 : decide (sz < 20) = false := decide_eq_false (by omega)
 have d2 : decide (sz > (s.size : Int)) = false := decide_eq_false (by omega)
 have d3 : decide ((s.size : Int) < sz) = false := decide_eq_false (by omega)
 have H := fun W => opts_any (s.extract 20 sz.toNat) (by rw [ByteArray.size_extract]; omega) W
 rw [ho] at H
 have G := fun a b W => get_any s (by omega) a b W
 have HO := Lib.hid ho
 clear ho
 go_enter Tryz.func91, Tryz.ntmps91
 go_wp2_with (fail)
 refine (H _).mono ?_
 rintro e w1 ⟨rfl, hb⟩
 have hr : w1.heap[w.heap.size]? = some (.cells zeroH 134 (0, 0)) := heap_step' (World.alloc_heap_new w _) hb
 have hB := below_step (below_alloc (Below.refl _ _) _) hb
 clear hb H
 obtain ⟨B, hBe⟩ : ∃ B, w.heap.size = B := ⟨_, rfl⟩
 rw [hBe] at hr hB ⊢
 have HR := Lib.hid hr
 have HBB := Lib.hid hB
 clear hr hB
 go_wp2_with (fail)
 obtain ⟨N, hNe⟩ : ∃ N, w1.heap.size = N := ⟨_, rfl⟩
 have hlt : B < N := by rw [← hNe]; exact (Array.getElem?_eq_some_iff.1 HR.out).1
 have hR0 := heap_alloc' (.cells #[.int .i64 0] 3) HR.out
 have hS0 := World.alloc_heap_new w1 (.cells #[.int .i64 0] 3)
 have hB0 : Below B w (w1.alloc (.cells #[.int .i64 0] 3)) := by have h_ := HBB.out; rw [← hBe] at h_ ⊢; exact below_alloc h_ _
 rw [hNe] at hS0 ⊢
 have z1 : (w1.alloc (.cells #[.int .i64 0] 3)).heap.size = N + 1 := by rw [← hNe]; simp
 obtain ⟨a1, ha1⟩ : ∃ a, w1.alloc (.cells #[.int .i64 0] 3) = a := ⟨_, rfl⟩
 rw [ha1] at hR0 hS0 hB0 z1 ⊢
 clear ha1
 clear HR HBB hNe
 have hR1 := heap_alloc' (.cells #[.int .i64 0] 3) hR0
 have hS1 := heap_alloc' (.cells #[.int .i64 0] 3) hS0
 have hA1 := World.alloc_heap_new a1 (.cells #[.int .i64 0] 3)
 have hB1 : Below B w (a1.alloc (.cells #[.int .i64 0] 3)) := by rw [← hBe] at hB0 ⊢; exact below_alloc hB0 _
 rw [z1] at hA1
 have z2 : (a1.alloc (.cells #[.int .i64 0] 3)).heap.size = N + 2 := by simp [z1]
 obtain ⟨a2, ha2⟩ : ∃ a, a1.alloc (.cells #[.int .i64 0] 3) = a := ⟨_, rfl⟩
 rw [ha2] at hR1 hS1 hA1 hB1 z2 ⊢
 clear ha2
 clear hR0 hS0 hB0 z1
 have hR0 := heap_alloc' (.cells #[.pointer (some ⟨B, 0, none⟩), .int .i64 2, .pointer (some ⟨B, 1, none⟩), .int .i64 2, .pointer (some ⟨N, 0, none⟩), .int .i64 4, .pointer (some ⟨N + 1, 0, none⟩), .int .i64 4, .pointer (some ⟨B, 4, none⟩), .int .i64 2, .pointer (some ⟨B, 5, none⟩), .int .i64 2] 144) hR1
 have hS0 := heap_alloc' (.cells #[.pointer (some ⟨B, 0, none⟩), .int .i64 2, .pointer (some ⟨B, 1, none⟩), .int .i64 2, .pointer (some ⟨N, 0, none⟩), .int .i64 4, .pointer (some ⟨N + 1, 0, none⟩), .int .i64 4, .pointer (some ⟨B, 4, none⟩), .int .i64 2, .pointer (some ⟨B, 5, none⟩), .int .i64 2] 144) hS1
 have hA0 := heap_alloc' (.cells #[.pointer (some ⟨B, 0, none⟩), .int .i64 2, .pointer (some ⟨B, 1, none⟩), .int .i64 2, .pointer (some ⟨N, 0, none⟩), .int .i64 4, .pointer (some ⟨N + 1, 0, none⟩), .int .i64 4, .pointer (some ⟨B, 4, none⟩), .int .i64 2, .pointer (some ⟨B, 5, none⟩), .int .i64 2] 144) hA1
 have hL0 := World.alloc_heap_new a2 (.cells #[.pointer (some ⟨B, 0, none⟩), .int .i64 2, .pointer (some ⟨B, 1, none⟩), .int .i64 2, .pointer (some ⟨N, 0, none⟩), .int .i64 4, .pointer (some ⟨N + 1, 0, none⟩), .int .i64 4, .pointer (some ⟨B, 4, none⟩), .int .i64 2, .pointer (some ⟨B, 5, none⟩), .int .i64 2] 144)
 have hB0 : Below B w (a2.alloc (.cells #[.pointer (some ⟨B, 0, none⟩), .int .i64 2, .pointer (some ⟨B, 1, none⟩), .int .i64 2, .pointer (some ⟨N, 0, none⟩), .int .i64 4, .pointer (some ⟨N + 1, 0, none⟩), .int .i64 4, .pointer (some ⟨B, 4, none⟩), .int .i64 2, .pointer (some ⟨B, 5, none⟩), .int .i64 2] 144)) := by rw [← hBe] at hB1 ⊢; exact below_alloc hB1 _
 rw [z2] at hL0
 obtain ⟨u0, hu0⟩ : ∃ a, a2.alloc (.cells #[.pointer (some ⟨B, 0, none⟩), .int .i64 2, .pointer (some ⟨B, 1, none⟩), .int .i64 2, .pointer (some ⟨N, 0, none⟩), .int .i64 4, .pointer (some ⟨N + 1, 0, none⟩), .int .i64 4, .pointer (some ⟨B, 4, none⟩), .int .i64 2, .pointer (some ⟨B, 5, none⟩), .int .i64 2] 144) = a := ⟨_, rfl⟩
 rw [hu0] at hR0 hS0 hA0 hL0 hB0 ⊢
 clear hu0
 (try simp only [z2])
 clear hR1 hS1 hA1 hB1 z2
 refine wp_loop_rounds 7 ?_
 -- round 0
 rw [rounds_succ]
 have x0 := (cell_of_row u0 (N + 2) 0 _ 144 (0, 0) hL0).trans (show _ = some (.pointer (some ⟨B, 0, none⟩)) from rfl)
 have x1 := (cell_of_row u0 (N + 2) 1 _ 144 (0, 0) hL0).trans (show _ = some (.int .i64 2) from rfl)
 have HQ := Lib.hid (And.intro hR0 (And.intro hS0 (And.intro hA0 (And.intro hL0 hB0))))
 clear hR0 hS0 hA0 hL0 hB0
 go_wp2_with (fail)
 clear x0 x1
 obtain ⟨hR0, hS0, hA0, hL0, hB0⟩ := HQ.out
 clear HQ
 obtain ⟨X, hX⟩ : ∃ X, u0.heap.size = X := ⟨_, rfl⟩
 have hXN : N + 2 < X := by rw [← hX]; exact blk_lt hL0
 have hx := World.alloc_heap_new u0 (.cells #[.pointer (some ⟨B, 0, none⟩), .int .i64 2] 144)
 have hR := heap_alloc' (.cells #[.pointer (some ⟨B, 0, none⟩), .int .i64 2] 144) hR0
 have hS := heap_alloc' (.cells #[.pointer (some ⟨B, 0, none⟩), .int .i64 2] 144) hS0
 have hA := heap_alloc' (.cells #[.pointer (some ⟨B, 0, none⟩), .int .i64 2] 144) hA0
 have hL := heap_alloc' (.cells #[.pointer (some ⟨B, 0, none⟩), .int .i64 2] 144) hL0
 have hB : Below B w (u0.alloc (.cells #[.pointer (some ⟨B, 0, none⟩), .int .i64 2] 144)) := by rw [← hBe] at hB0 ⊢; exact below_alloc hB0 _
 rw [hX] at hx
 (try rw [hX])
 (try simp only [hX])
 generalize u0.alloc (.cells #[.pointer (some ⟨B, 0, none⟩), .int .i64 2] 144) = v at hx hR hS hA hL hB ⊢
 clear hR0 hS0 hA0 hL0 hB0 hX
 have q0 := (cell_of_row v X 0 _ 144 (0, 0) hx).trans (show _ = some (.pointer (some ⟨B, 0, none⟩)) from rfl)
 have q1 := (cell_of_row v X 1 _ 144 (0, 0) hx).trans (show _ = some (.int .i64 2) from rfl)
 refine start_ (n := 12) (S := fun w' => w'.cell? ⟨X, 0, none⟩ = some (.pointer (some ⟨B, 0, none⟩)) ∧ w'.cell? ⟨X, 1, none⟩ = some (.int .i64 2)) (ds := [11]) (bm 12 0x0) (by kernel_rfl) rfl rfl ⟨q0, q1⟩ (fun hHeld => ?_)
 have hx' := heap_drew hx
 have hR' := heap_drew hR
 have hS' := heap_drew hS
 have hA' := heap_drew hA
 have hL' := heap_drew hL
 have hB' : Below B w v.drew := by rw [← hBe] at hB ⊢; exact below_drew hB
 clear hx hR hS hA hL hB q0 q1
 generalize v.drew = v2 at hx' hR' hS' hA' hL' hB' hHeld ⊢
 refine pk 0 54 (bm 12 0x1) ?_
 refine tk 1 55 (bm 12 0x3) hHeld ?_
 refine pk 2 56 (bm 12 0x7) ?_
 refine pk 3 57 (bm 12 0xf) ?_
 refine pk 4 58 (bm 12 0x1f) ?_
 refine tk 5 59 (bm 12 0x3f) hHeld ?_
 refine one_ (i := 6) (N := some 60) (bm 12 0x7f) rfl rfl (by kernel_rfl) (by decide) (fun K hK => ?_)
 refine goes_ Tryz.func41 (by kernel_rfl) rfl #[.string s, .int .i64 0, .int .i64 2] (by rfl) rfl rfl (by (try simp only [List.map_toArray, List.map_cons, List.map_nil]); first | done | rfl) ?_
 refine (G 0 2 _).mono ?_
 rintro e y_ ⟨rfl, hb⟩
 refine ⟨_, rfl, ?_⟩
 have hR := heap_step' hR' hb
 have hS := heap_step' hS' hb
 have hA := heap_step' hA' hb
 have hL := heap_step' hL' hb
 have hx := heap_step' hx' hb
 have hB := below_stepB hBe hB' hb
 clear hb hR' hS' hA' hL' hx' hB'
 refine hK.out _ _ ⟨(blk_cell hx 0).trans rfl, (blk_cell hx 1).trans rfl⟩ (fun hHeld => ?_)
 clear hK K
 refine nm 60 ?_
 refine pk 7 53 (bm 12 0xff) ?_
 refine pk 8 61 (bm 12 0x1ff) ?_
 refine pk 9 62 (bm 12 0x3ff) ?_
 refine pk 10 63 (bm 12 0x7ff) ?_
 have y0 := (cell_of_row y_ (B) 0 _ 134 (0, 0) hR).trans (show _ = some (.int .i64 0) from rfl)
 have z0 := row_free (i := 0) hR
 refine last_ (i := 11) (N := none) (bm 12 0xfff) rfl rfl (by kernel_rfl) (by decide) (fun K hK => ?_)
 refine skip_ (w1 := ?_) (by rfl) rfl ?_ ?_
 rotate_left
 ·go_simp
  rfl
 refine hK.out _ _ ?_
 clear hK K hHeld y0 z0
 refine done_ (by kernel_rfl) ?_
 have hR1 : (y_.setCell ⟨B, 0, none⟩ (.int .i64 (Sp.get (bl s) 0 2).1)).heap[B]? = some (.cells #[.int .i64 (Sp.get (bl s) 0 2).1, .int .i64 0, .int .u32 0, .int .u32 0, .int .i64 0, .int .i64 0, .int .i64 0, .string ⟨#[]⟩] 134 (0, 0)) := blk_put hR 0 _ rfl
 have hS1 : (y_.setCell ⟨B, 0, none⟩ (.int .i64 (Sp.get (bl s) 0 2).1)).heap[N]? = some (.cells #[.int .i64 0] 3 (0, 0)) := (Below.heap_setCell _ _ _ _ (by show N ≠ B; omega)).trans hS
 have hA1 : (y_.setCell ⟨B, 0, none⟩ (.int .i64 (Sp.get (bl s) 0 2).1)).heap[N + 1]? = some (.cells #[.int .i64 0] 3 (0, 0)) := (Below.heap_setCell _ _ _ _ (by show N + 1 ≠ B; omega)).trans hA
 have hL1 : (y_.setCell ⟨B, 0, none⟩ (.int .i64 (Sp.get (bl s) 0 2).1)).heap[N + 2]? = some (.cells #[.pointer (some ⟨B, 0, none⟩), .int .i64 2, .pointer (some ⟨B, 1, none⟩), .int .i64 2, .pointer (some ⟨N, 0, none⟩), .int .i64 4, .pointer (some ⟨N + 1, 0, none⟩), .int .i64 4, .pointer (some ⟨B, 4, none⟩), .int .i64 2, .pointer (some ⟨B, 5, none⟩), .int .i64 2] 144 (0, 0)) := (Below.heap_setCell _ _ _ _ (by show N + 2 ≠ B; omega)).trans hL
 have hx1 : (y_.setCell ⟨B, 0, none⟩ (.int .i64 (Sp.get (bl s) 0 2).1)).heap[X]? = some (.cells #[.pointer (some ⟨B, 0, none⟩), .int .i64 2] 144 (0, 0)) := (Below.heap_setCell _ _ _ _ (by show X ≠ B; omega)).trans hx
 have hB1 : Below B w (y_.setCell ⟨B, 0, none⟩ (.int .i64 (Sp.get (bl s) 0 2).1)) := hB.setCell (show B ≤ B by omega) _
 clear hR hS hA hL hB hx
 generalize (y_.setCell ⟨B, 0, none⟩ (.int .i64 (Sp.get (bl s) 0 2).1)) = u1 at hR1 hS1 hA1 hL1 hB1 hx1 ⊢
 clear y_
 have q1 := (blk_cell hx1 1).trans rfl
 have HQ := Lib.hid (And.intro hR1 (And.intro hS1 (And.intro hA1 (And.intro hL1 hB1))))
 clear hR1 hS1 hA1 hL1 hB1 hx1 hXN
 go_wp2_with (fail)
 obtain ⟨hR1, hS1, hA1, hL1, hB1⟩ := HQ.out
 clear HQ q1
 -- round 1
 rw [rounds_succ]
 have x0 := (cell_of_row u1 (N + 2) 2 _ 144 (0, 0) hL1).trans (show _ = some (.pointer (some ⟨B, 1, none⟩)) from rfl)
 have x1 := (cell_of_row u1 (N + 2) 3 _ 144 (0, 0) hL1).trans (show _ = some (.int .i64 2) from rfl)
 have HQ := Lib.hid (And.intro hR1 (And.intro hS1 (And.intro hA1 (And.intro hL1 hB1))))
 clear hR1 hS1 hA1 hL1 hB1
 go_wp2_with (fail)
 clear x0 x1
 obtain ⟨hR1, hS1, hA1, hL1, hB1⟩ := HQ.out
 clear HQ
 obtain ⟨X, hX⟩ : ∃ X, u1.heap.size = X := ⟨_, rfl⟩
 have hXN : N + 2 < X := by rw [← hX]; exact blk_lt hL1
 have hx := World.alloc_heap_new u1 (.cells #[.pointer (some ⟨B, 1, none⟩), .int .i64 2] 144)
 have hR := heap_alloc' (.cells #[.pointer (some ⟨B, 1, none⟩), .int .i64 2] 144) hR1
 have hS := heap_alloc' (.cells #[.pointer (some ⟨B, 1, none⟩), .int .i64 2] 144) hS1
 have hA := heap_alloc' (.cells #[.pointer (some ⟨B, 1, none⟩), .int .i64 2] 144) hA1
 have hL := heap_alloc' (.cells #[.pointer (some ⟨B, 1, none⟩), .int .i64 2] 144) hL1
 have hB : Below B w (u1.alloc (.cells #[.pointer (some ⟨B, 1, none⟩), .int .i64 2] 144)) := by rw [← hBe] at hB1 ⊢; exact below_alloc hB1 _
 rw [hX] at hx
 (try rw [hX])
 (try simp only [hX])
 generalize u1.alloc (.cells #[.pointer (some ⟨B, 1, none⟩), .int .i64 2] 144) = v at hx hR hS hA hL hB ⊢
 clear hR1 hS1 hA1 hL1 hB1 hX
 have q0 := (cell_of_row v X 0 _ 144 (0, 0) hx).trans (show _ = some (.pointer (some ⟨B, 1, none⟩)) from rfl)
 have q1 := (cell_of_row v X 1 _ 144 (0, 0) hx).trans (show _ = some (.int .i64 2) from rfl)
 refine start_ (n := 12) (S := fun w' => w'.cell? ⟨X, 0, none⟩ = some (.pointer (some ⟨B, 1, none⟩)) ∧ w'.cell? ⟨X, 1, none⟩ = some (.int .i64 2)) (ds := [11]) (bm 12 0x0) (by kernel_rfl) rfl rfl ⟨q0, q1⟩ (fun hHeld => ?_)
 have hx' := heap_drew hx
 have hR' := heap_drew hR
 have hS' := heap_drew hS
 have hA' := heap_drew hA
 have hL' := heap_drew hL
 have hB' : Below B w v.drew := by rw [← hBe] at hB ⊢; exact below_drew hB
 clear hx hR hS hA hL hB q0 q1
 generalize v.drew = v2 at hx' hR' hS' hA' hL' hB' hHeld ⊢
 refine pk 0 54 (bm 12 0x1) ?_
 refine tk 1 55 (bm 12 0x3) hHeld ?_
 refine pk 2 56 (bm 12 0x7) ?_
 refine pk 3 57 (bm 12 0xf) ?_
 refine pk 4 58 (bm 12 0x1f) ?_
 refine tk 5 59 (bm 12 0x3f) hHeld ?_
 refine one_ (i := 6) (N := some 60) (bm 12 0x7f) rfl rfl (by kernel_rfl) (by decide) (fun K hK => ?_)
 refine goes_ Tryz.func41 (by kernel_rfl) rfl #[.string s, .int .i64 2, .int .i64 2] (by rfl) rfl rfl (by (try simp only [List.map_toArray, List.map_cons, List.map_nil]); first | done | rfl) ?_
 refine (G 2 2 _).mono ?_
 rintro e y_ ⟨rfl, hb⟩
 refine ⟨_, rfl, ?_⟩
 have hR := heap_step' hR' hb
 have hS := heap_step' hS' hb
 have hA := heap_step' hA' hb
 have hL := heap_step' hL' hb
 have hx := heap_step' hx' hb
 have hB := below_stepB hBe hB' hb
 clear hb hR' hS' hA' hL' hx' hB'
 refine hK.out _ _ ⟨(blk_cell hx 0).trans rfl, (blk_cell hx 1).trans rfl⟩ (fun hHeld => ?_)
 clear hK K
 refine nm 60 ?_
 refine pk 7 53 (bm 12 0xff) ?_
 refine pk 8 61 (bm 12 0x1ff) ?_
 refine pk 9 62 (bm 12 0x3ff) ?_
 refine pk 10 63 (bm 12 0x7ff) ?_
 have y0 := (cell_of_row y_ (B) 1 _ 134 (0, 0) hR).trans (show _ = some (.int .i64 0) from rfl)
 have z0 := row_free (i := 1) hR
 refine last_ (i := 11) (N := none) (bm 12 0xfff) rfl rfl (by kernel_rfl) (by decide) (fun K hK => ?_)
 refine skip_ (w1 := ?_) (by rfl) rfl ?_ ?_
 rotate_left
 ·go_simp
  rfl
 refine hK.out _ _ ?_
 clear hK K hHeld y0 z0
 refine done_ (by kernel_rfl) ?_
 have hR2 : (y_.setCell ⟨B, 1, none⟩ (.int .i64 (Sp.get (bl s) 2 2).1)).heap[B]? = some (.cells #[.int .i64 (Sp.get (bl s) 0 2).1, .int .i64 (Sp.get (bl s) 2 2).1, .int .u32 0, .int .u32 0, .int .i64 0, .int .i64 0, .int .i64 0, .string ⟨#[]⟩] 134 (0, 0)) := blk_put hR 1 _ rfl
 have hS2 : (y_.setCell ⟨B, 1, none⟩ (.int .i64 (Sp.get (bl s) 2 2).1)).heap[N]? = some (.cells #[.int .i64 0] 3 (0, 0)) := (Below.heap_setCell _ _ _ _ (by show N ≠ B; omega)).trans hS
 have hA2 : (y_.setCell ⟨B, 1, none⟩ (.int .i64 (Sp.get (bl s) 2 2).1)).heap[N + 1]? = some (.cells #[.int .i64 0] 3 (0, 0)) := (Below.heap_setCell _ _ _ _ (by show N + 1 ≠ B; omega)).trans hA
 have hL2 : (y_.setCell ⟨B, 1, none⟩ (.int .i64 (Sp.get (bl s) 2 2).1)).heap[N + 2]? = some (.cells #[.pointer (some ⟨B, 0, none⟩), .int .i64 2, .pointer (some ⟨B, 1, none⟩), .int .i64 2, .pointer (some ⟨N, 0, none⟩), .int .i64 4, .pointer (some ⟨N + 1, 0, none⟩), .int .i64 4, .pointer (some ⟨B, 4, none⟩), .int .i64 2, .pointer (some ⟨B, 5, none⟩), .int .i64 2] 144 (0, 0)) := (Below.heap_setCell _ _ _ _ (by show N + 2 ≠ B; omega)).trans hL
 have hx2 : (y_.setCell ⟨B, 1, none⟩ (.int .i64 (Sp.get (bl s) 2 2).1)).heap[X]? = some (.cells #[.pointer (some ⟨B, 1, none⟩), .int .i64 2] 144 (0, 0)) := (Below.heap_setCell _ _ _ _ (by show X ≠ B; omega)).trans hx
 have hB2 : Below B w (y_.setCell ⟨B, 1, none⟩ (.int .i64 (Sp.get (bl s) 2 2).1)) := hB.setCell (show B ≤ B by omega) _
 clear hR hS hA hL hB hx
 generalize (y_.setCell ⟨B, 1, none⟩ (.int .i64 (Sp.get (bl s) 2 2).1)) = u2 at hR2 hS2 hA2 hL2 hB2 hx2 ⊢
 clear y_
 have q1 := (blk_cell hx2 1).trans rfl
 have HQ := Lib.hid (And.intro hR2 (And.intro hS2 (And.intro hA2 (And.intro hL2 hB2))))
 clear hR2 hS2 hA2 hL2 hB2 hx2 hXN
 go_wp2_with (fail)
 obtain ⟨hR2, hS2, hA2, hL2, hB2⟩ := HQ.out
 clear HQ q1
 -- round 2
 rw [rounds_succ]
 have x0 := (cell_of_row u2 (N + 2) 4 _ 144 (0, 0) hL2).trans (show _ = some (.pointer (some ⟨N, 0, none⟩)) from rfl)
 have x1 := (cell_of_row u2 (N + 2) 5 _ 144 (0, 0) hL2).trans (show _ = some (.int .i64 4) from rfl)
 have HQ := Lib.hid (And.intro hR2 (And.intro hS2 (And.intro hA2 (And.intro hL2 hB2))))
 clear hR2 hS2 hA2 hL2 hB2
 go_wp2_with (fail)
 clear x0 x1
 obtain ⟨hR2, hS2, hA2, hL2, hB2⟩ := HQ.out
 clear HQ
 obtain ⟨X, hX⟩ : ∃ X, u2.heap.size = X := ⟨_, rfl⟩
 have hXN : N + 2 < X := by rw [← hX]; exact blk_lt hL2
 have hx := World.alloc_heap_new u2 (.cells #[.pointer (some ⟨N, 0, none⟩), .int .i64 4] 144)
 have hR := heap_alloc' (.cells #[.pointer (some ⟨N, 0, none⟩), .int .i64 4] 144) hR2
 have hS := heap_alloc' (.cells #[.pointer (some ⟨N, 0, none⟩), .int .i64 4] 144) hS2
 have hA := heap_alloc' (.cells #[.pointer (some ⟨N, 0, none⟩), .int .i64 4] 144) hA2
 have hL := heap_alloc' (.cells #[.pointer (some ⟨N, 0, none⟩), .int .i64 4] 144) hL2
 have hB : Below B w (u2.alloc (.cells #[.pointer (some ⟨N, 0, none⟩), .int .i64 4] 144)) := by rw [← hBe] at hB2 ⊢; exact below_alloc hB2 _
 rw [hX] at hx
 (try rw [hX])
 (try simp only [hX])
 generalize u2.alloc (.cells #[.pointer (some ⟨N, 0, none⟩), .int .i64 4] 144) = v at hx hR hS hA hL hB ⊢
 clear hR2 hS2 hA2 hL2 hB2 hX
 have q0 := (cell_of_row v X 0 _ 144 (0, 0) hx).trans (show _ = some (.pointer (some ⟨N, 0, none⟩)) from rfl)
 have q1 := (cell_of_row v X 1 _ 144 (0, 0) hx).trans (show _ = some (.int .i64 4) from rfl)
 refine start_ (n := 12) (S := fun w' => w'.cell? ⟨X, 0, none⟩ = some (.pointer (some ⟨N, 0, none⟩)) ∧ w'.cell? ⟨X, 1, none⟩ = some (.int .i64 4)) (ds := [11]) (bm 12 0x0) (by kernel_rfl) rfl rfl ⟨q0, q1⟩ (fun hHeld => ?_)
 have hx' := heap_drew hx
 have hR' := heap_drew hR
 have hS' := heap_drew hS
 have hA' := heap_drew hA
 have hL' := heap_drew hL
 have hB' : Below B w v.drew := by rw [← hBe] at hB ⊢; exact below_drew hB
 clear hx hR hS hA hL hB q0 q1
 generalize v.drew = v2 at hx' hR' hS' hA' hL' hB' hHeld ⊢
 refine pk 0 54 (bm 12 0x1) ?_
 refine tk 1 55 (bm 12 0x3) hHeld ?_
 refine pk 2 56 (bm 12 0x7) ?_
 refine pk 3 57 (bm 12 0xf) ?_
 refine pk 4 58 (bm 12 0x1f) ?_
 refine tk 5 59 (bm 12 0x3f) hHeld ?_
 refine one_ (i := 6) (N := some 60) (bm 12 0x7f) rfl rfl (by kernel_rfl) (by decide) (fun K hK => ?_)
 refine goes_ Tryz.func41 (by kernel_rfl) rfl #[.string s, .int .i64 4, .int .i64 4] (by rfl) rfl rfl (by (try simp only [List.map_toArray, List.map_cons, List.map_nil]); first | done | rfl) ?_
 refine (G 4 4 _).mono ?_
 rintro e y_ ⟨rfl, hb⟩
 refine ⟨_, rfl, ?_⟩
 have hR := heap_step' hR' hb
 have hS := heap_step' hS' hb
 have hA := heap_step' hA' hb
 have hL := heap_step' hL' hb
 have hx := heap_step' hx' hb
 have hB := below_stepB hBe hB' hb
 clear hb hR' hS' hA' hL' hx' hB'
 refine hK.out _ _ ⟨(blk_cell hx 0).trans rfl, (blk_cell hx 1).trans rfl⟩ (fun hHeld => ?_)
 clear hK K
 refine nm 60 ?_
 refine pk 7 53 (bm 12 0xff) ?_
 refine pk 8 61 (bm 12 0x1ff) ?_
 refine pk 9 62 (bm 12 0x3ff) ?_
 refine pk 10 63 (bm 12 0x7ff) ?_
 have y0 := (cell_of_row y_ (N) 0 _ 3 (0, 0) hS).trans (show _ = some (.int .i64 0) from rfl)
 have z0 := row_free (i := 0) hS
 refine last_ (i := 11) (N := none) (bm 12 0xfff) rfl rfl (by kernel_rfl) (by decide) (fun K hK => ?_)
 refine skip_ (w1 := ?_) (by rfl) rfl ?_ ?_
 rotate_left
 ·go_simp
  rfl
 refine hK.out _ _ ?_
 clear hK K hHeld y0 z0
 refine done_ (by kernel_rfl) ?_
 have hR3 : (y_.setCell ⟨N, 0, none⟩ (.int .i64 (Sp.get (bl s) 4 4).1)).heap[B]? = some (.cells #[.int .i64 (Sp.get (bl s) 0 2).1, .int .i64 (Sp.get (bl s) 2 2).1, .int .u32 0, .int .u32 0, .int .i64 0, .int .i64 0, .int .i64 0, .string ⟨#[]⟩] 134 (0, 0)) := (Below.heap_setCell _ _ _ _ (by show B ≠ N; omega)).trans hR
 have hS3 : (y_.setCell ⟨N, 0, none⟩ (.int .i64 (Sp.get (bl s) 4 4).1)).heap[N]? = some (.cells #[.int .i64 (Sp.get (bl s) 4 4).1] 3 (0, 0)) := blk_put hS 0 _ rfl
 have hA3 : (y_.setCell ⟨N, 0, none⟩ (.int .i64 (Sp.get (bl s) 4 4).1)).heap[N + 1]? = some (.cells #[.int .i64 0] 3 (0, 0)) := (Below.heap_setCell _ _ _ _ (by show N + 1 ≠ N; omega)).trans hA
 have hL3 : (y_.setCell ⟨N, 0, none⟩ (.int .i64 (Sp.get (bl s) 4 4).1)).heap[N + 2]? = some (.cells #[.pointer (some ⟨B, 0, none⟩), .int .i64 2, .pointer (some ⟨B, 1, none⟩), .int .i64 2, .pointer (some ⟨N, 0, none⟩), .int .i64 4, .pointer (some ⟨N + 1, 0, none⟩), .int .i64 4, .pointer (some ⟨B, 4, none⟩), .int .i64 2, .pointer (some ⟨B, 5, none⟩), .int .i64 2] 144 (0, 0)) := (Below.heap_setCell _ _ _ _ (by show N + 2 ≠ N; omega)).trans hL
 have hx3 : (y_.setCell ⟨N, 0, none⟩ (.int .i64 (Sp.get (bl s) 4 4).1)).heap[X]? = some (.cells #[.pointer (some ⟨N, 0, none⟩), .int .i64 4] 144 (0, 0)) := (Below.heap_setCell _ _ _ _ (by show X ≠ N; omega)).trans hx
 have hB3 : Below B w (y_.setCell ⟨N, 0, none⟩ (.int .i64 (Sp.get (bl s) 4 4).1)) := hB.setCell (show B ≤ N by omega) _
 clear hR hS hA hL hB hx
 generalize (y_.setCell ⟨N, 0, none⟩ (.int .i64 (Sp.get (bl s) 4 4).1)) = u3 at hR3 hS3 hA3 hL3 hB3 hx3 ⊢
 clear y_
 have q1 := (blk_cell hx3 1).trans rfl
 have HQ := Lib.hid (And.intro hR3 (And.intro hS3 (And.intro hA3 (And.intro hL3 hB3))))
 clear hR3 hS3 hA3 hL3 hB3 hx3 hXN
 go_wp2_with (fail)
 obtain ⟨hR3, hS3, hA3, hL3, hB3⟩ := HQ.out
 clear HQ q1
 -- round 3
 rw [rounds_succ]
 have x0 := (cell_of_row u3 (N + 2) 6 _ 144 (0, 0) hL3).trans (show _ = some (.pointer (some ⟨N + 1, 0, none⟩)) from rfl)
 have x1 := (cell_of_row u3 (N + 2) 7 _ 144 (0, 0) hL3).trans (show _ = some (.int .i64 4) from rfl)
 have HQ := Lib.hid (And.intro hR3 (And.intro hS3 (And.intro hA3 (And.intro hL3 hB3))))
 clear hR3 hS3 hA3 hL3 hB3
 go_wp2_with (fail)
 clear x0 x1
 obtain ⟨hR3, hS3, hA3, hL3, hB3⟩ := HQ.out
 clear HQ
 obtain ⟨X, hX⟩ : ∃ X, u3.heap.size = X := ⟨_, rfl⟩
 have hXN : N + 2 < X := by rw [← hX]; exact blk_lt hL3
 have hx := World.alloc_heap_new u3 (.cells #[.pointer (some ⟨N + 1, 0, none⟩), .int .i64 4] 144)
 have hR := heap_alloc' (.cells #[.pointer (some ⟨N + 1, 0, none⟩), .int .i64 4] 144) hR3
 have hS := heap_alloc' (.cells #[.pointer (some ⟨N + 1, 0, none⟩), .int .i64 4] 144) hS3
 have hA := heap_alloc' (.cells #[.pointer (some ⟨N + 1, 0, none⟩), .int .i64 4] 144) hA3
 have hL := heap_alloc' (.cells #[.pointer (some ⟨N + 1, 0, none⟩), .int .i64 4] 144) hL3
 have hB : Below B w (u3.alloc (.cells #[.pointer (some ⟨N + 1, 0, none⟩), .int .i64 4] 144)) := by rw [← hBe] at hB3 ⊢; exact below_alloc hB3 _
 rw [hX] at hx
 (try rw [hX])
 (try simp only [hX])
 generalize u3.alloc (.cells #[.pointer (some ⟨N + 1, 0, none⟩), .int .i64 4] 144) = v at hx hR hS hA hL hB ⊢
 clear hR3 hS3 hA3 hL3 hB3 hX
 have q0 := (cell_of_row v X 0 _ 144 (0, 0) hx).trans (show _ = some (.pointer (some ⟨N + 1, 0, none⟩)) from rfl)
 have q1 := (cell_of_row v X 1 _ 144 (0, 0) hx).trans (show _ = some (.int .i64 4) from rfl)
 refine start_ (n := 12) (S := fun w' => w'.cell? ⟨X, 0, none⟩ = some (.pointer (some ⟨N + 1, 0, none⟩)) ∧ w'.cell? ⟨X, 1, none⟩ = some (.int .i64 4)) (ds := [11]) (bm 12 0x0) (by kernel_rfl) rfl rfl ⟨q0, q1⟩ (fun hHeld => ?_)
 have hx' := heap_drew hx
 have hR' := heap_drew hR
 have hS' := heap_drew hS
 have hA' := heap_drew hA
 have hL' := heap_drew hL
 have hB' : Below B w v.drew := by rw [← hBe] at hB ⊢; exact below_drew hB
 clear hx hR hS hA hL hB q0 q1
 generalize v.drew = v2 at hx' hR' hS' hA' hL' hB' hHeld ⊢
 refine pk 0 54 (bm 12 0x1) ?_
 refine tk 1 55 (bm 12 0x3) hHeld ?_
 refine pk 2 56 (bm 12 0x7) ?_
 refine pk 3 57 (bm 12 0xf) ?_
 refine pk 4 58 (bm 12 0x1f) ?_
 refine tk 5 59 (bm 12 0x3f) hHeld ?_
 refine one_ (i := 6) (N := some 60) (bm 12 0x7f) rfl rfl (by kernel_rfl) (by decide) (fun K hK => ?_)
 refine goes_ Tryz.func41 (by kernel_rfl) rfl #[.string s, .int .i64 8, .int .i64 4] (by rfl) rfl rfl (by (try simp only [List.map_toArray, List.map_cons, List.map_nil]); first | done | rfl) ?_
 refine (G 8 4 _).mono ?_
 rintro e y_ ⟨rfl, hb⟩
 refine ⟨_, rfl, ?_⟩
 have hR := heap_step' hR' hb
 have hS := heap_step' hS' hb
 have hA := heap_step' hA' hb
 have hL := heap_step' hL' hb
 have hx := heap_step' hx' hb
 have hB := below_stepB hBe hB' hb
 clear hb hR' hS' hA' hL' hx' hB'
 refine hK.out _ _ ⟨(blk_cell hx 0).trans rfl, (blk_cell hx 1).trans rfl⟩ (fun hHeld => ?_)
 clear hK K
 refine nm 60 ?_
 refine pk 7 53 (bm 12 0xff) ?_
 refine pk 8 61 (bm 12 0x1ff) ?_
 refine pk 9 62 (bm 12 0x3ff) ?_
 refine pk 10 63 (bm 12 0x7ff) ?_
 have y0 := (cell_of_row y_ (N + 1) 0 _ 3 (0, 0) hA).trans (show _ = some (.int .i64 0) from rfl)
 have z0 := row_free (i := 0) hA
 refine last_ (i := 11) (N := none) (bm 12 0xfff) rfl rfl (by kernel_rfl) (by decide) (fun K hK => ?_)
 refine skip_ (w1 := ?_) (by rfl) rfl ?_ ?_
 rotate_left
 ·go_simp
  rfl
 refine hK.out _ _ ?_
 clear hK K hHeld y0 z0
 refine done_ (by kernel_rfl) ?_
 have hR4 : (y_.setCell ⟨N + 1, 0, none⟩ (.int .i64 (Sp.get (bl s) 8 4).1)).heap[B]? = some (.cells #[.int .i64 (Sp.get (bl s) 0 2).1, .int .i64 (Sp.get (bl s) 2 2).1, .int .u32 0, .int .u32 0, .int .i64 0, .int .i64 0, .int .i64 0, .string ⟨#[]⟩] 134 (0, 0)) := (Below.heap_setCell _ _ _ _ (by show B ≠ N + 1; omega)).trans hR
 have hS4 : (y_.setCell ⟨N + 1, 0, none⟩ (.int .i64 (Sp.get (bl s) 8 4).1)).heap[N]? = some (.cells #[.int .i64 (Sp.get (bl s) 4 4).1] 3 (0, 0)) := (Below.heap_setCell _ _ _ _ (by show N ≠ N + 1; omega)).trans hS
 have hA4 : (y_.setCell ⟨N + 1, 0, none⟩ (.int .i64 (Sp.get (bl s) 8 4).1)).heap[N + 1]? = some (.cells #[.int .i64 (Sp.get (bl s) 8 4).1] 3 (0, 0)) := blk_put hA 0 _ rfl
 have hL4 : (y_.setCell ⟨N + 1, 0, none⟩ (.int .i64 (Sp.get (bl s) 8 4).1)).heap[N + 2]? = some (.cells #[.pointer (some ⟨B, 0, none⟩), .int .i64 2, .pointer (some ⟨B, 1, none⟩), .int .i64 2, .pointer (some ⟨N, 0, none⟩), .int .i64 4, .pointer (some ⟨N + 1, 0, none⟩), .int .i64 4, .pointer (some ⟨B, 4, none⟩), .int .i64 2, .pointer (some ⟨B, 5, none⟩), .int .i64 2] 144 (0, 0)) := (Below.heap_setCell _ _ _ _ (by show N + 2 ≠ N + 1; omega)).trans hL
 have hx4 : (y_.setCell ⟨N + 1, 0, none⟩ (.int .i64 (Sp.get (bl s) 8 4).1)).heap[X]? = some (.cells #[.pointer (some ⟨N + 1, 0, none⟩), .int .i64 4] 144 (0, 0)) := (Below.heap_setCell _ _ _ _ (by show X ≠ N + 1; omega)).trans hx
 have hB4 : Below B w (y_.setCell ⟨N + 1, 0, none⟩ (.int .i64 (Sp.get (bl s) 8 4).1)) := hB.setCell (show B ≤ N + 1 by omega) _
 clear hR hS hA hL hB hx
 generalize (y_.setCell ⟨N + 1, 0, none⟩ (.int .i64 (Sp.get (bl s) 8 4).1)) = u4 at hR4 hS4 hA4 hL4 hB4 hx4 ⊢
 clear y_
 have q1 := (blk_cell hx4 1).trans rfl
 have HQ := Lib.hid (And.intro hR4 (And.intro hS4 (And.intro hA4 (And.intro hL4 hB4))))
 clear hR4 hS4 hA4 hL4 hB4 hx4 hXN
 go_wp2_with (fail)
 obtain ⟨hR4, hS4, hA4, hL4, hB4⟩ := HQ.out
 clear HQ q1
 -- round 4
 rw [rounds_succ]
 have x0 := (cell_of_row u4 (N + 2) 8 _ 144 (0, 0) hL4).trans (show _ = some (.pointer (some ⟨B, 4, none⟩)) from rfl)
 have x1 := (cell_of_row u4 (N + 2) 9 _ 144 (0, 0) hL4).trans (show _ = some (.int .i64 2) from rfl)
 have HQ := Lib.hid (And.intro hR4 (And.intro hS4 (And.intro hA4 (And.intro hL4 hB4))))
 clear hR4 hS4 hA4 hL4 hB4
 go_wp2_with (fail)
 clear x0 x1
 obtain ⟨hR4, hS4, hA4, hL4, hB4⟩ := HQ.out
 clear HQ
 obtain ⟨X, hX⟩ : ∃ X, u4.heap.size = X := ⟨_, rfl⟩
 have hXN : N + 2 < X := by rw [← hX]; exact blk_lt hL4
 have hx := World.alloc_heap_new u4 (.cells #[.pointer (some ⟨B, 4, none⟩), .int .i64 2] 144)
 have hR := heap_alloc' (.cells #[.pointer (some ⟨B, 4, none⟩), .int .i64 2] 144) hR4
 have hS := heap_alloc' (.cells #[.pointer (some ⟨B, 4, none⟩), .int .i64 2] 144) hS4
 have hA := heap_alloc' (.cells #[.pointer (some ⟨B, 4, none⟩), .int .i64 2] 144) hA4
 have hL := heap_alloc' (.cells #[.pointer (some ⟨B, 4, none⟩), .int .i64 2] 144) hL4
 have hB : Below B w (u4.alloc (.cells #[.pointer (some ⟨B, 4, none⟩), .int .i64 2] 144)) := by rw [← hBe] at hB4 ⊢; exact below_alloc hB4 _
 rw [hX] at hx
 (try rw [hX])
 (try simp only [hX])
 generalize u4.alloc (.cells #[.pointer (some ⟨B, 4, none⟩), .int .i64 2] 144) = v at hx hR hS hA hL hB ⊢
 clear hR4 hS4 hA4 hL4 hB4 hX
 have q0 := (cell_of_row v X 0 _ 144 (0, 0) hx).trans (show _ = some (.pointer (some ⟨B, 4, none⟩)) from rfl)
 have q1 := (cell_of_row v X 1 _ 144 (0, 0) hx).trans (show _ = some (.int .i64 2) from rfl)
 refine start_ (n := 12) (S := fun w' => w'.cell? ⟨X, 0, none⟩ = some (.pointer (some ⟨B, 4, none⟩)) ∧ w'.cell? ⟨X, 1, none⟩ = some (.int .i64 2)) (ds := [11]) (bm 12 0x0) (by kernel_rfl) rfl rfl ⟨q0, q1⟩ (fun hHeld => ?_)
 have hx' := heap_drew hx
 have hR' := heap_drew hR
 have hS' := heap_drew hS
 have hA' := heap_drew hA
 have hL' := heap_drew hL
 have hB' : Below B w v.drew := by rw [← hBe] at hB ⊢; exact below_drew hB
 clear hx hR hS hA hL hB q0 q1
 generalize v.drew = v2 at hx' hR' hS' hA' hL' hB' hHeld ⊢
 refine pk 0 54 (bm 12 0x1) ?_
 refine tk 1 55 (bm 12 0x3) hHeld ?_
 refine pk 2 56 (bm 12 0x7) ?_
 refine pk 3 57 (bm 12 0xf) ?_
 refine pk 4 58 (bm 12 0x1f) ?_
 refine tk 5 59 (bm 12 0x3f) hHeld ?_
 refine one_ (i := 6) (N := some 60) (bm 12 0x7f) rfl rfl (by kernel_rfl) (by decide) (fun K hK => ?_)
 refine goes_ Tryz.func41 (by kernel_rfl) rfl #[.string s, .int .i64 12, .int .i64 2] (by rfl) rfl rfl (by (try simp only [List.map_toArray, List.map_cons, List.map_nil]); first | done | rfl) ?_
 refine (G 12 2 _).mono ?_
 rintro e y_ ⟨rfl, hb⟩
 refine ⟨_, rfl, ?_⟩
 have hR := heap_step' hR' hb
 have hS := heap_step' hS' hb
 have hA := heap_step' hA' hb
 have hL := heap_step' hL' hb
 have hx := heap_step' hx' hb
 have hB := below_stepB hBe hB' hb
 clear hb hR' hS' hA' hL' hx' hB'
 refine hK.out _ _ ⟨(blk_cell hx 0).trans rfl, (blk_cell hx 1).trans rfl⟩ (fun hHeld => ?_)
 clear hK K
 refine nm 60 ?_
 refine pk 7 53 (bm 12 0xff) ?_
 refine pk 8 61 (bm 12 0x1ff) ?_
 refine pk 9 62 (bm 12 0x3ff) ?_
 refine pk 10 63 (bm 12 0x7ff) ?_
 have y0 := (cell_of_row y_ (B) 4 _ 134 (0, 0) hR).trans (show _ = some (.int .i64 0) from rfl)
 have z0 := row_free (i := 4) hR
 refine last_ (i := 11) (N := none) (bm 12 0xfff) rfl rfl (by kernel_rfl) (by decide) (fun K hK => ?_)
 refine skip_ (w1 := ?_) (by rfl) rfl ?_ ?_
 rotate_left
 ·go_simp
  rfl
 refine hK.out _ _ ?_
 clear hK K hHeld y0 z0
 refine done_ (by kernel_rfl) ?_
 have hR5 : (y_.setCell ⟨B, 4, none⟩ (.int .i64 (Sp.get (bl s) 12 2).1)).heap[B]? = some (.cells #[.int .i64 (Sp.get (bl s) 0 2).1, .int .i64 (Sp.get (bl s) 2 2).1, .int .u32 0, .int .u32 0, .int .i64 (Sp.get (bl s) 12 2).1, .int .i64 0, .int .i64 0, .string ⟨#[]⟩] 134 (0, 0)) := blk_put hR 4 _ rfl
 have hS5 : (y_.setCell ⟨B, 4, none⟩ (.int .i64 (Sp.get (bl s) 12 2).1)).heap[N]? = some (.cells #[.int .i64 (Sp.get (bl s) 4 4).1] 3 (0, 0)) := (Below.heap_setCell _ _ _ _ (by show N ≠ B; omega)).trans hS
 have hA5 : (y_.setCell ⟨B, 4, none⟩ (.int .i64 (Sp.get (bl s) 12 2).1)).heap[N + 1]? = some (.cells #[.int .i64 (Sp.get (bl s) 8 4).1] 3 (0, 0)) := (Below.heap_setCell _ _ _ _ (by show N + 1 ≠ B; omega)).trans hA
 have hL5 : (y_.setCell ⟨B, 4, none⟩ (.int .i64 (Sp.get (bl s) 12 2).1)).heap[N + 2]? = some (.cells #[.pointer (some ⟨B, 0, none⟩), .int .i64 2, .pointer (some ⟨B, 1, none⟩), .int .i64 2, .pointer (some ⟨N, 0, none⟩), .int .i64 4, .pointer (some ⟨N + 1, 0, none⟩), .int .i64 4, .pointer (some ⟨B, 4, none⟩), .int .i64 2, .pointer (some ⟨B, 5, none⟩), .int .i64 2] 144 (0, 0)) := (Below.heap_setCell _ _ _ _ (by show N + 2 ≠ B; omega)).trans hL
 have hx5 : (y_.setCell ⟨B, 4, none⟩ (.int .i64 (Sp.get (bl s) 12 2).1)).heap[X]? = some (.cells #[.pointer (some ⟨B, 4, none⟩), .int .i64 2] 144 (0, 0)) := (Below.heap_setCell _ _ _ _ (by show X ≠ B; omega)).trans hx
 have hB5 : Below B w (y_.setCell ⟨B, 4, none⟩ (.int .i64 (Sp.get (bl s) 12 2).1)) := hB.setCell (show B ≤ B by omega) _
 clear hR hS hA hL hB hx
 generalize (y_.setCell ⟨B, 4, none⟩ (.int .i64 (Sp.get (bl s) 12 2).1)) = u5 at hR5 hS5 hA5 hL5 hB5 hx5 ⊢
 clear y_
 have q1 := (blk_cell hx5 1).trans rfl
 have HQ := Lib.hid (And.intro hR5 (And.intro hS5 (And.intro hA5 (And.intro hL5 hB5))))
 clear hR5 hS5 hA5 hL5 hB5 hx5 hXN
 go_wp2_with (fail)
 obtain ⟨hR5, hS5, hA5, hL5, hB5⟩ := HQ.out
 clear HQ q1
 -- round 5
 rw [rounds_succ]
 have x0 := (cell_of_row u5 (N + 2) 10 _ 144 (0, 0) hL5).trans (show _ = some (.pointer (some ⟨B, 5, none⟩)) from rfl)
 have x1 := (cell_of_row u5 (N + 2) 11 _ 144 (0, 0) hL5).trans (show _ = some (.int .i64 2) from rfl)
 have HQ := Lib.hid (And.intro hR5 (And.intro hS5 (And.intro hA5 (And.intro hL5 hB5))))
 clear hR5 hS5 hA5 hL5 hB5
 go_wp2_with (fail)
 clear x0 x1
 obtain ⟨hR5, hS5, hA5, hL5, hB5⟩ := HQ.out
 clear HQ
 obtain ⟨X, hX⟩ : ∃ X, u5.heap.size = X := ⟨_, rfl⟩
 have hXN : N + 2 < X := by rw [← hX]; exact blk_lt hL5
 have hx := World.alloc_heap_new u5 (.cells #[.pointer (some ⟨B, 5, none⟩), .int .i64 2] 144)
 have hR := heap_alloc' (.cells #[.pointer (some ⟨B, 5, none⟩), .int .i64 2] 144) hR5
 have hS := heap_alloc' (.cells #[.pointer (some ⟨B, 5, none⟩), .int .i64 2] 144) hS5
 have hA := heap_alloc' (.cells #[.pointer (some ⟨B, 5, none⟩), .int .i64 2] 144) hA5
 have hL := heap_alloc' (.cells #[.pointer (some ⟨B, 5, none⟩), .int .i64 2] 144) hL5
 have hB : Below B w (u5.alloc (.cells #[.pointer (some ⟨B, 5, none⟩), .int .i64 2] 144)) := by rw [← hBe] at hB5 ⊢; exact below_alloc hB5 _
 rw [hX] at hx
 (try rw [hX])
 (try simp only [hX])
 generalize u5.alloc (.cells #[.pointer (some ⟨B, 5, none⟩), .int .i64 2] 144) = v at hx hR hS hA hL hB ⊢
 clear hR5 hS5 hA5 hL5 hB5 hX
 have q0 := (cell_of_row v X 0 _ 144 (0, 0) hx).trans (show _ = some (.pointer (some ⟨B, 5, none⟩)) from rfl)
 have q1 := (cell_of_row v X 1 _ 144 (0, 0) hx).trans (show _ = some (.int .i64 2) from rfl)
 refine start_ (n := 12) (S := fun w' => w'.cell? ⟨X, 0, none⟩ = some (.pointer (some ⟨B, 5, none⟩)) ∧ w'.cell? ⟨X, 1, none⟩ = some (.int .i64 2)) (ds := [11]) (bm 12 0x0) (by kernel_rfl) rfl rfl ⟨q0, q1⟩ (fun hHeld => ?_)
 have hx' := heap_drew hx
 have hR' := heap_drew hR
 have hS' := heap_drew hS
 have hA' := heap_drew hA
 have hL' := heap_drew hL
 have hB' : Below B w v.drew := by rw [← hBe] at hB ⊢; exact below_drew hB
 clear hx hR hS hA hL hB q0 q1
 generalize v.drew = v2 at hx' hR' hS' hA' hL' hB' hHeld ⊢
 refine pk 0 54 (bm 12 0x1) ?_
 refine tk 1 55 (bm 12 0x3) hHeld ?_
 refine pk 2 56 (bm 12 0x7) ?_
 refine pk 3 57 (bm 12 0xf) ?_
 refine pk 4 58 (bm 12 0x1f) ?_
 refine tk 5 59 (bm 12 0x3f) hHeld ?_
 refine one_ (i := 6) (N := some 60) (bm 12 0x7f) rfl rfl (by kernel_rfl) (by decide) (fun K hK => ?_)
 refine goes_ Tryz.func41 (by kernel_rfl) rfl #[.string s, .int .i64 14, .int .i64 2] (by rfl) rfl rfl (by (try simp only [List.map_toArray, List.map_cons, List.map_nil]); first | done | rfl) ?_
 refine (G 14 2 _).mono ?_
 rintro e y_ ⟨rfl, hb⟩
 refine ⟨_, rfl, ?_⟩
 have hR := heap_step' hR' hb
 have hS := heap_step' hS' hb
 have hA := heap_step' hA' hb
 have hL := heap_step' hL' hb
 have hx := heap_step' hx' hb
 have hB := below_stepB hBe hB' hb
 clear hb hR' hS' hA' hL' hx' hB'
 refine hK.out _ _ ⟨(blk_cell hx 0).trans rfl, (blk_cell hx 1).trans rfl⟩ (fun hHeld => ?_)
 clear hK K
 refine nm 60 ?_
 refine pk 7 53 (bm 12 0xff) ?_
 refine pk 8 61 (bm 12 0x1ff) ?_
 refine pk 9 62 (bm 12 0x3ff) ?_
 refine pk 10 63 (bm 12 0x7ff) ?_
 have y0 := (cell_of_row y_ (B) 5 _ 134 (0, 0) hR).trans (show _ = some (.int .i64 0) from rfl)
 have z0 := row_free (i := 5) hR
 refine last_ (i := 11) (N := none) (bm 12 0xfff) rfl rfl (by kernel_rfl) (by decide) (fun K hK => ?_)
 refine skip_ (w1 := ?_) (by rfl) rfl ?_ ?_
 rotate_left
 ·go_simp
  rfl
 refine hK.out _ _ ?_
 clear hK K hHeld y0 z0
 refine done_ (by kernel_rfl) ?_
 have hR6 : (y_.setCell ⟨B, 5, none⟩ (.int .i64 (Sp.get (bl s) 14 2).1)).heap[B]? = some (.cells #[.int .i64 (Sp.get (bl s) 0 2).1, .int .i64 (Sp.get (bl s) 2 2).1, .int .u32 0, .int .u32 0, .int .i64 (Sp.get (bl s) 12 2).1, .int .i64 (Sp.get (bl s) 14 2).1, .int .i64 0, .string ⟨#[]⟩] 134 (0, 0)) := blk_put hR 5 _ rfl
 have hS6 : (y_.setCell ⟨B, 5, none⟩ (.int .i64 (Sp.get (bl s) 14 2).1)).heap[N]? = some (.cells #[.int .i64 (Sp.get (bl s) 4 4).1] 3 (0, 0)) := (Below.heap_setCell _ _ _ _ (by show N ≠ B; omega)).trans hS
 have hA6 : (y_.setCell ⟨B, 5, none⟩ (.int .i64 (Sp.get (bl s) 14 2).1)).heap[N + 1]? = some (.cells #[.int .i64 (Sp.get (bl s) 8 4).1] 3 (0, 0)) := (Below.heap_setCell _ _ _ _ (by show N + 1 ≠ B; omega)).trans hA
 have hL6 : (y_.setCell ⟨B, 5, none⟩ (.int .i64 (Sp.get (bl s) 14 2).1)).heap[N + 2]? = some (.cells #[.pointer (some ⟨B, 0, none⟩), .int .i64 2, .pointer (some ⟨B, 1, none⟩), .int .i64 2, .pointer (some ⟨N, 0, none⟩), .int .i64 4, .pointer (some ⟨N + 1, 0, none⟩), .int .i64 4, .pointer (some ⟨B, 4, none⟩), .int .i64 2, .pointer (some ⟨B, 5, none⟩), .int .i64 2] 144 (0, 0)) := (Below.heap_setCell _ _ _ _ (by show N + 2 ≠ B; omega)).trans hL
 have hx6 : (y_.setCell ⟨B, 5, none⟩ (.int .i64 (Sp.get (bl s) 14 2).1)).heap[X]? = some (.cells #[.pointer (some ⟨B, 5, none⟩), .int .i64 2] 144 (0, 0)) := (Below.heap_setCell _ _ _ _ (by show X ≠ B; omega)).trans hx
 have hB6 : Below B w (y_.setCell ⟨B, 5, none⟩ (.int .i64 (Sp.get (bl s) 14 2).1)) := hB.setCell (show B ≤ B by omega) _
 clear hR hS hA hL hB hx
 generalize (y_.setCell ⟨B, 5, none⟩ (.int .i64 (Sp.get (bl s) 14 2).1)) = u6 at hR6 hS6 hA6 hL6 hB6 hx6 ⊢
 clear y_
 have q1 := (blk_cell hx6 1).trans rfl
 have HQ := Lib.hid (And.intro hR6 (And.intro hS6 (And.intro hA6 (And.intro hL6 hB6))))
 clear hR6 hS6 hA6 hL6 hB6 hx6 hXN
 go_wp2_with (fail)
 obtain ⟨hR6, hS6, hA6, hL6, hB6⟩ := HQ.out
 clear HQ q1
 -- behind the loop
 rw [rounds_succ]
 have HQ := Lib.hid (And.intro hR6 (And.intro hS6 (And.intro hA6 hB6)))
 clear hR6 hS6 hA6 hL6 hB6
 go_wp2_with (fail)
 obtain ⟨hR6, hS6, hA6, hB6⟩ := HQ.out
 clear HQ
 refine (G 18 2 _).mono ?_
 rintro e y_ ⟨rfl, hb⟩
 have hR := heap_step' hR6 hb
 have hS := heap_step' hS6 hb
 have hA := heap_step' hA6 hb
 have hB := below_stepB hBe hB6 hb
 clear hb hR6 hS6 hA6 hB6
 have y6 : y_.cell? ⟨B, 6, none⟩ = some (.int .i64 0) := (blk_cell hR 6).trans rfl
 have z6 := blk_frozen hR 6
 have y4 : y_.cell? ⟨B, 4, none⟩ = some (.int .i64 (Sp.get (bl s) 12 2).1) := (blk_cell hR 4).trans rfl
 have z4 := blk_frozen hR 4
 have HQ := Lib.hid (And.intro hR (And.intro hS (And.intro hA hB)))
 clear hR hS hA hB
 go_wp2_with (fail)
 obtain ⟨hR, hS, hA, hB⟩ := HQ.out
 clear HQ y6 z6 y4 z4
 have hR7 : ((y_.setCell ⟨B, 6, none⟩ (.int .i64 (Sp.get (bl s) 18 2).1)).setCell ⟨B, 4, none⟩ (.int .i64 (Go.bits .and .i64 (Sp.get (bl s) 12 2).1 4095))).heap[B]? = some (.cells #[.int .i64 (Sp.get (bl s) 0 2).1, .int .i64 (Sp.get (bl s) 2 2).1, .int .u32 0, .int .u32 0, .int .i64 (Go.bits .and .i64 (Sp.get (bl s) 12 2).1 4095), .int .i64 (Sp.get (bl s) 14 2).1, .int .i64 (Sp.get (bl s) 18 2).1, .string ⟨#[]⟩] 134 (0, 0)) := blk_put (blk_put hR 6 _ rfl) 4 _ rfl
 have hS7 : ((y_.setCell ⟨B, 6, none⟩ (.int .i64 (Sp.get (bl s) 18 2).1)).setCell ⟨B, 4, none⟩ (.int .i64 (Go.bits .and .i64 (Sp.get (bl s) 12 2).1 4095))).heap[N]? = some (.cells #[.int .i64 (Sp.get (bl s) 4 4).1] 3 (0, 0)) := blk_far (blk_far hS (by show N ≠ B; omega) _) (by show N ≠ B; omega) _
 have hA7 : ((y_.setCell ⟨B, 6, none⟩ (.int .i64 (Sp.get (bl s) 18 2).1)).setCell ⟨B, 4, none⟩ (.int .i64 (Go.bits .and .i64 (Sp.get (bl s) 12 2).1 4095))).heap[N + 1]? = some (.cells #[.int .i64 (Sp.get (bl s) 8 4).1] 3 (0, 0)) := blk_far (blk_far hA (by show N + 1 ≠ B; omega) _) (by show N + 1 ≠ B; omega) _
 have hB7 : Below B w ((y_.setCell ⟨B, 6, none⟩ (.int .i64 (Sp.get (bl s) 18 2).1)).setCell ⟨B, 4, none⟩ (.int .i64 (Go.bits .and .i64 (Sp.get (bl s) 12 2).1 4095))) := (hB.setCell (Nat.le_refl _) _).setCell (Nat.le_refl _) _
 clear hR hS hA hB
 generalize ((y_.setCell ⟨B, 6, none⟩ (.int .i64 (Sp.get (bl s) 18 2).1)).setCell ⟨B, 4, none⟩ (.int .i64 (Go.bits .and .i64 (Sp.get (bl s) 12 2).1 4095))) = u7 at hR7 hS7 hA7 hB7 ⊢
 clear y_
 refine start_ (n := 13) (S := fun w' => w'.cell? ⟨N, 0, none⟩ = some (.int .i64 (Sp.get (bl s) 4 4).1) ∧ w'.cell? ⟨N + 1, 0, none⟩ = some (.int .i64 (Sp.get (bl s) 8 4).1)) (ds := [8, 10, 12]) (bm 13 0x0) (by kernel_rfl) rfl rfl ⟨(blk_cell hS7 0).trans rfl, (blk_cell hA7 0).trans rfl⟩ (fun hHeld => ?_)
 have hR := heap_drew hR7
 have hB : Below B w u7.drew := by rw [← hBe] at hB7 ⊢; exact below_drew hB7
 clear hR7 hS7 hA7 hB7
 generalize u7.drew = v2 at hR hB hHeld ⊢
 clear u7
 have y2 : v2.cell? ⟨B, 2, none⟩ = some (.int .u32 0) := (blk_cell hR 2).trans rfl
 have z2 := blk_frozen hR 2
 have y3 : v2.cell? ⟨B, 3, none⟩ = some (.int .u32 0) := (blk_cell hR 3).trans rfl
 have z3 := blk_frozen hR 3
 have y7 : v2.cell? ⟨B, 7, none⟩ = some (.string ⟨#[]⟩) := (blk_cell hR 7).trans rfl
 have z7 := blk_frozen hR 7
 have hle : 20 ≤ sz.toNat := by omega
 refine tk 0 81 (bm 13 0x1) hHeld ?_
 refine pk 1 82 (bm 13 0x3) ?_
 refine tk 2 83 (bm 13 0x7) hHeld ?_
 refine pk 3 84 (bm 13 0xf) ?_
 refine pk 4 85 (bm 13 0x1f) ?_
 refine pk 5 86 (bm 13 0x3f) ?_
 refine pk 6 87 (bm 13 0x7f) ?_
 refine pk 7 88 (bm 13 0xff) ?_
 refine last_ (i := 8) (N := none) (bm 13 0x1ff) rfl rfl (by kernel_rfl) (by decide) (fun K hK => ?_)
 refine skip_ (w1 := ?_) (by rfl) rfl ?_ ?_
 rotate_left
 ·go_simp
  rfl
 refine hK.out _ _ ?_
 clear hK K
 refine pk 9 89 (bm 13 0x3ff) ?_
 refine last_ (i := 10) (N := none) (bm 13 0x7ff) rfl rfl (by kernel_rfl) (by decide) (fun K hK => ?_)
 refine skip_ (w1 := ?_) (by rfl) rfl ?_ ?_
 rotate_left
 ·go_simp
  rfl
 refine hK.out _ _ ?_
 clear hK K
 refine pk 11 90 (bm 13 0xfff) ?_
 refine last_ (i := 12) (N := none) (bm 13 0x1fff) rfl rfl (by kernel_rfl) (by decide) (fun K hK => ?_)
 refine skip_ (w1 := ?_) (by rfl) rfl ?_ ?_
 rotate_left
 ·go_simp
  rfl
 refine hK.out _ _ ?_
 clear hK K
 refine done_ (by kernel_rfl) ?_
 clear hHeld y2 z2 y3 z3 y7 z7
 have hR8 : (((v2.setCell ⟨B, 2, none⟩ (.int .u32 (IntKind.u32.wrap (Sp.get (bl s) 4 4).1))).setCell ⟨B, 3, none⟩ (.int .u32 (IntKind.u32.wrap (Sp.get (bl s) 8 4).1))).setCell ⟨B, 7, none⟩ (.string (s.extract 20 sz.toNat))).heap[B]? = some (.cells #[.int .i64 (Sp.get (bl s) 0 2).1, .int .i64 (Sp.get (bl s) 2 2).1, .int .u32 (IntKind.u32.wrap (Sp.get (bl s) 4 4).1), .int .u32 (IntKind.u32.wrap (Sp.get (bl s) 8 4).1), .int .i64 (Go.bits .and .i64 (Sp.get (bl s) 12 2).1 4095), .int .i64 (Sp.get (bl s) 14 2).1, .int .i64 (Sp.get (bl s) 18 2).1, .string (s.extract 20 sz.toNat)] 134 (0, 0)) := blk_put (blk_put (blk_put hR 2 _ rfl) 3 _ rfl) 7 _ rfl
 have hB8 : Below B w (((v2.setCell ⟨B, 2, none⟩ (.int .u32 (IntKind.u32.wrap (Sp.get (bl s) 4 4).1))).setCell ⟨B, 3, none⟩ (.int .u32 (IntKind.u32.wrap (Sp.get (bl s) 8 4).1))).setCell ⟨B, 7, none⟩ (.string (s.extract 20 sz.toNat))) := ((hB.setCell (Nat.le_refl _) _).setCell (Nat.le_refl _) _).setCell (Nat.le_refl _) _
 clear hR hB
 generalize (((v2.setCell ⟨B, 2, none⟩ (.int .u32 (IntKind.u32.wrap (Sp.get (bl s) 4 4).1))).setCell ⟨B, 3, none⟩ (.int .u32 (IntKind.u32.wrap (Sp.get (bl s) 8 4).1))).setCell ⟨B, 7, none⟩ (.string (s.extract 20 sz.toNat))) = u8 at hR8 hB8 ⊢
 clear v2
 go_wp2_with (fail)
 have hz0 : 0 ≤ sz := by omega
 refine start_ (n := 7) (S := fun w' => w'.cell? ⟨B, 0, none⟩ = some (.int .i64 (Sp.get (bl s) 0 2).1) ∧ w'.cell? ⟨B, 1, none⟩ = some (.int .i64 (Sp.get (bl s) 2 2).1) ∧ w'.cell? ⟨B, 2, none⟩ = some (.int .u32 (IntKind.u32.wrap (Sp.get (bl s) 4 4).1)) ∧ w'.cell? ⟨B, 3, none⟩ = some (.int .u32 (IntKind.u32.wrap (Sp.get (bl s) 8 4).1)) ∧ w'.cell? ⟨B, 4, none⟩ = some (.int .i64 (Go.bits .and .i64 (Sp.get (bl s) 12 2).1 4095)) ∧ w'.cell? ⟨B, 5, none⟩ = some (.int .i64 (Sp.get (bl s) 14 2).1) ∧ w'.cell? ⟨B, 6, none⟩ = some (.int .i64 (Sp.get (bl s) 18 2).1) ∧ w'.cell? ⟨B, 7, none⟩ = some (.string (s.extract 20 sz.toNat))) (ds := [4]) (bm 7 0x0) (by kernel_rfl) rfl rfl ⟨(blk_cell hR8 0).trans rfl, (blk_cell hR8 1).trans rfl, (blk_cell hR8 2).trans rfl, (blk_cell hR8 3).trans rfl, (blk_cell hR8 4).trans rfl, (blk_cell hR8 5).trans rfl, (blk_cell hR8 6).trans rfl, (blk_cell hR8 7).trans rfl⟩ (fun hHeld => ?_)
 have hR := heap_drew hR8
 have hB : Below B w u8.drew := by rw [← hBe] at hB8 ⊢; exact below_drew hB8
 clear hR8 hB8
 generalize u8.drew = v2 at hR hB hHeld ⊢
 clear u8
 have y0 : v2.cell? ⟨B, 0, none⟩ = some (.int .i64 (Sp.get (bl s) 0 2).1) := (blk_cell hR 0).trans rfl
 have y1 : v2.cell? ⟨B, 1, none⟩ = some (.int .i64 (Sp.get (bl s) 2 2).1) := (blk_cell hR 1).trans rfl
 have y2 : v2.cell? ⟨B, 2, none⟩ = some (.int .u32 (IntKind.u32.wrap (Sp.get (bl s) 4 4).1)) := (blk_cell hR 2).trans rfl
 have y3 : v2.cell? ⟨B, 3, none⟩ = some (.int .u32 (IntKind.u32.wrap (Sp.get (bl s) 8 4).1)) := (blk_cell hR 3).trans rfl
 have y4 : v2.cell? ⟨B, 4, none⟩ = some (.int .i64 (Go.bits .and .i64 (Sp.get (bl s) 12 2).1 4095)) := (blk_cell hR 4).trans rfl
 have y5 : v2.cell? ⟨B, 5, none⟩ = some (.int .i64 (Sp.get (bl s) 14 2).1) := (blk_cell hR 5).trans rfl
 have y6 : v2.cell? ⟨B, 6, none⟩ = some (.int .i64 (Sp.get (bl s) 18 2).1) := (blk_cell hR 6).trans rfl
 have y7 : v2.cell? ⟨B, 7, none⟩ = some (.string (s.extract 20 sz.toNat)) := (blk_cell hR 7).trans rfl
 have z0 := blk_frozen hR 0
 have z1 := blk_frozen hR 1
 have z2 := blk_frozen hR 2
 have z3 := blk_frozen hR 3
 have z4 := blk_frozen hR 4
 have z5 := blk_frozen hR 5
 have z6 := blk_frozen hR 6
 have z7 := blk_frozen hR 7
 refine tk 0 91 (bm 7 0x1) hHeld ?_
 refine pk 1 92 (bm 7 0x3) ?_
 refine pk 2 93 (bm 7 0x7) ?_
 refine pk 3 94 (bm 7 0xf) ?_
 refine last_ (i := 4) (N := none) (bm 7 0x1f) rfl rfl (by kernel_rfl) (by decide) (fun K hK => ?_)
 refine skip_ (w1 := ?_) (by rfl) rfl ?_ ?_
 rotate_left
 ·go_simp
  rfl
 refine hK.out _ _ ?_
 clear hK K
 refine pk 5 3 (bm 7 0x3f) ?_
 refine pk 6 4 (bm 7 0x7f) ?_
 refine done_ (by kernel_rfl) ?_
 go_wp2_with (fail)
 refine bodyPost_ret (results_ctt rfl _ _ B 134 #[.int .i64 (Sp.get (bl s) 0 2).1, .int .i64 (Sp.get (bl s) 2 2).1, .int .u32 (IntKind.u32.wrap (Sp.get (bl s) 4 4).1), .int .u32 (IntKind.u32.wrap (Sp.get (bl s) 8 4).1), .int .i64 (Go.bits .and .i64 (Sp.get (bl s) 12 2).1 4095), .int .i64 (Sp.get (bl s) 14 2).1, .int .i64 (Sp.get (bl s) 18 2).1, .string (s.extract 20 sz.toNat)] (0, 0) _ rfl ?_ Tryz.underlying134 rfl (by kernel_rfl)) rfl ?_
 ·exact blk_put (blk_put (blk_put (blk_put (blk_put (blk_put (blk_put (blk_put (hR) 0 _ rfl) 1 _ rfl) 2 _ rfl) 3 _ rfl) 4 _ rfl) 5 _ rfl) 6 _ rfl) 7 _ rfl
 refine ⟨rfl, ?_⟩
 rw [hBe]
 exact (Below.setCell (Below.setCell (Below.setCell (Below.setCell (Below.setCell (Below.setCell (Below.setCell (Below.setCell hB (Nat.le_refl B) _) (Nat.le_refl B) _) (Nat.le_refl B) _) (Nat.le_refl B) _) (Nat.le_refl B) _) (Nat.le_refl B) _) (Nat.le_refl B) _) (Nat.le_refl B) _)
theorem u32_small {n : Int} (h : 0 ≤ n ∧ n < 4294967296) : IntKind.u32.wrap n = n := by rw [IntKind.wrap_u32]; omega
theorem get_small (s : List UInt8) (a b : Int) : 0 ≤ (Sp.get s a b).1 ∧ (Sp.get s a b).1 < 4294967296 := by
 unfold Sp.get
 split
 case isFalse => exact ⟨by decide, by decide⟩
 case isTrue h =>
  have hf := Sp.has_iff.1 h
  exact Sp.beNum_small _ (by rw [List.length_take]; omega)
theorem and_flags {n : Int} (h : 0 ≤ n ∧ n < 4294967296) : Go.bits .and .i64 n 4095 = n % 4096 :=
 bits_mask .i64 63 (by decide) (fun n a b => by rw [IntKind.wrap_i64]; omega) 12 (by decide) n h.1 (by omega)
theorem tcp_size {s : ByteArray} (h : 12 < (bl s).length) : bt s 12 = ((((bl s)[12]'h).toNat : Nat) : Int) := bt_bln h
theorem tcp_parse_any (s : ByteArray) (hs : s.size ≤ 140737488355328) (w : World) : Calls Tryz.prog 91 #[.string s] w fun e w' => e = .returned (.tuple #[.agg #[.int .i64 (Sp.tcpParse (bl s)).sp, .int .i64 (Sp.tcpParse (bl s)).dp, .int .u32 (Sp.tcpParse (bl s)).seq, .int .u32 (Sp.tcpParse (bl s)).ack, .int .i64 (Sp.tcpParse (bl s)).flags, .int .i64 (Sp.tcpParse (bl s)).win, .int .i64 (Sp.tcpParse (bl s)).urg, .string (lb (Sp.tcpParse (bl s)).opts)], .string (lb (Sp.tcpParse (bl s)).body), .int .i64 (Sp.tcpParse (bl s)).e]) ∧ Below w.heap.size w w' := by
 have hl := bl_length s
 have el : lb [] = ⟨#[]⟩ := rfl
 by_cases h1 : s.size < 20
 ·have h := tcp_parse_short s w h1
  have e : Sp.tcpParse (bl s) = Sp.tcpNone 2 := by unfold Sp.tcpParse; rw [dif_pos (by omega)]
  rw [e]; exact h
 have h12 : 12 < (bl s).length := by omega
 have hx := ((bl s)[12]'h12).toNat_lt
 have hsz : wrap64 (wrap64 (bt s 12 / 16) * 4) = (Sp.tcpSize (bl s) : Int) := by
  unfold Sp.tcpSize
  rw [dif_pos h12, tcp_size h12, wrap_id (n := ((((bl s)[12]'h12).toNat : Nat) : Int) / 16) (by omega) (by omega), wrap_id (by omega) (by omega)]
  omega
 by_cases h2 : Sp.tcpSize (bl s) < 20 ∨ Sp.tcpSize (bl s) > s.size
 ·have h := tcp_parse_header s w h1 _ hsz (by omega)
  have e : Sp.tcpParse (bl s) = Sp.tcpNone 4 := by unfold Sp.tcpParse; rw [dif_neg (by omega), if_pos (by omega)]
  rw [e]; exact h
 have hex : bl (s.extract 20 ((Sp.tcpSize (bl s) : Int)).toNat) = ((bl s).take (Sp.tcpSize (bl s))).drop 20 := by rw [Int.toNat_natCast, bl_extract]
 have hex2 : s.extract 20 ((Sp.tcpSize (bl s) : Int)).toNat = lb (((bl s).take (Sp.tcpSize (bl s))).drop 20) := by rw [← hex, Sp.lb_bl]
 by_cases h3 : Sp.optsOk (((bl s).take (Sp.tcpSize (bl s))).drop 20) = true
 ·have h := tcp_parse_long s w hs h1 _ hsz (by omega) (by omega) (by rw [hex]; exact h3)
  have e : Sp.tcpParse (bl s) = ⟨(Sp.get (bl s) 0 2).1, (Sp.get (bl s) 2 2).1, (Sp.get (bl s) 4 4).1, (Sp.get (bl s) 8 4).1, (Sp.get (bl s) 12 2).1 % 4096, (Sp.get (bl s) 14 2).1, (Sp.get (bl s) 18 2).1, ((bl s).take (Sp.tcpSize (bl s))).drop 20, (bl s).drop (Sp.tcpSize (bl s)), 0⟩ := by
   unfold Sp.tcpParse; rw [dif_neg (by omega), if_neg (by omega), if_pos h3]
  have hb : s.extract ((Sp.tcpSize (bl s) : Int)).toNat s.size = lb ((bl s).drop (Sp.tcpSize (bl s))) := Sp.bl_inj (by rw [bl_extract, bl_lb, Int.toNat_natCast, ← hl, List.take_length])
  rw [u32_small (get_small _ _ _), u32_small (get_small _ _ _), and_flags (get_small _ _ _), hex2, hb] at h
  rw [e]; exact h
 have h := tcp_parse_opts s w hs h1 _ hsz (by omega) (by omega) (by rw [hex]; exact Sp.bool_no h3)
 have e : Sp.tcpParse (bl s) = Sp.tcpNone 6 := by unfold Sp.tcpParse; rw [dif_neg (by omega), if_neg (by omega), if_neg h3]
 rw [e]; exact h
def tcp_Parse.f (a0 : ByteArray) : Option (Int × Int × Int × Int × Int × Int × Int × ByteArray × ByteArray × Int) := if a0.size ≤ 140737488355328 then some ((Sp.tcpParse (bl a0)).sp, (Sp.tcpParse (bl a0)).dp, (Sp.tcpParse (bl a0)).seq, (Sp.tcpParse (bl a0)).ack, (Sp.tcpParse (bl a0)).flags, (Sp.tcpParse (bl a0)).win, (Sp.tcpParse (bl a0)).urg, lb (Sp.tcpParse (bl a0)).opts, lb (Sp.tcpParse (bl a0)).body, (Sp.tcpParse (bl a0)).e) else none
theorem tcp_Parse_eq {a0 : ByteArray} (h : a0.size ≤ 140737488355328) : tcp_Parse.f a0 = some ((Sp.tcpParse (bl a0)).sp, (Sp.tcpParse (bl a0)).dp, (Sp.tcpParse (bl a0)).seq, (Sp.tcpParse (bl a0)).ack, (Sp.tcpParse (bl a0)).flags, (Sp.tcpParse (bl a0)).win, (Sp.tcpParse (bl a0)).urg, lb (Sp.tcpParse (bl a0)).opts, lb (Sp.tcpParse (bl a0)).body, (Sp.tcpParse (bl a0)).e) := by unfold tcp_Parse.f; exact if_pos h
theorem tcp_Parse.calls (a0 : ByteArray) (r1 : Int) (r2 : Int) (r3 : Int) (r4 : Int) (r5 : Int) (r6 : Int) (r7 : Int) (r8 : ByteArray) (r9 : ByteArray) (r10 : Int) (w : World) (h : tcp_Parse.f a0 = some (r1, r2, r3, r4, r5, r6, r7, r8, r9, r10)) :
  Calls Tryz.prog 91 #[.string a0] w fun e w' => e = .returned (.tuple #[.agg #[.int .i64 r1, .int .i64 r2, .int .u32 r3, .int .u32 r4, .int .i64 r5, .int .i64 r6, .int .i64 r7, .string r8], .string r9, .int .i64 r10]) ∧ Below w.heap.size w w' := by
 unfold tcp_Parse.f at h
 split at h
 case isFalse => cases h
 case isTrue hs =>
  have h := Option.some.inj h
  simp only [Prod.mk.injEq] at h
  obtain ⟨rfl, rfl, rfl, rfl, rfl, rfl, rfl, rfl, rfl, rfl⟩ := h
  exact tcp_parse_any a0 hs w
end Go.Proofs.YtfnjohklmpiboaaGreat.Pr
