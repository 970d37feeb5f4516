-- Written by a program of the session (wip/tools) out of the translation, over the kit's print; with pieces of the session's own.
import Derived.Test.YtfnjohklmpiboaaGreatPr0
namespace Go.Proofs.YtfnjohklmpiboaaGreat.Pr
open Go.RowKit Go.Proofs.YtfnjohklmpiboaaGreatW.PrintWords Go.Proofs.YtfnjohklmpiboaaGreatW.PrintLast Go.Proofs.YtfnjohklmpiboaaGreatW.PrintMore
attribute [local go_sem] max2_int min2_int max_two min_two max_three min_three max_four min_four   -- for this text's walks alone
set_option linter.unusedVariables false
set_option linter.unusedSimpArgs false
open Go.Proofs.YtfnjohklmpiboaaGreat.Sp
/-! ### weighbridgeref01_Words: function 71 -/
def weighbridgeref01_Words.l0 : Nat → ByteArray → List Int → Int → Option (List Int)
 | 0, _, _, _ => none
 | k + 1, x0, x3, x4 => if x4 < (x0.size : Int) then (if 0 ≤ x4 then (if (wrap64 (x4 + 1)) < (x0.size : Int) then (if 0 ≤ (wrap64 (x4 + 1)) then (if x3.length < 17592186044416 then (weighbridgeref01_Words.l0 k x0 (x3 ++ [wrap64 ((wrap64 (256 * (wrap64 (bt x0 x4)))) + (wrap64 (bt x0 (wrap64 (x4 + 1)))))]) (wrap64 (x4 + 2))) else (none)) else (none)) else (if x3.length < 17592186044416 then (weighbridgeref01_Words.l0 k x0 (x3 ++ [wrap64 (256 * (wrap64 (bt x0 x4)))]) (wrap64 (x4 + 2))) else (none))) else (none)) else (some x3)
def weighbridgeref01_Words.f (k : Nat) (a0 : ByteArray) : Option (List Int) := weighbridgeref01_Words.l0 k a0 ([] : List Int) 0
theorem weighbridgeref01_Words.mono_l : ∀ k, (∀ y0 y1 y2, LeO (weighbridgeref01_Words.l0 k y0 y1 y2) (weighbridgeref01_Words.l0 (k + 1) y0 y1 y2))
 | 0 => fun _ _ _ r h => by simp [weighbridgeref01_Words.l0] at h
 | k + 1 => by
  have ih0 := weighbridgeref01_Words.mono_l k
  ·intro y0 y1 y2
   unfold weighbridgeref01_Words.l0
   repeat' first
   | (with_reducible exact ih0 _ _ _)
   | (with_reducible exact LeO.refl _)
   | (with_reducible exact LeO.none _)
   | (with_reducible refine LeO.ite ?_ ?_)
   | (with_reducible refine LeO.bind ?_ (fun _ => ?_))
   | exact ih0 _ _ _
   | exact LeO.none _
   | refine LeO.ite ?_ ?_
   | refine LeO.bind ?_ (fun _ => ?_)
theorem weighbridgeref01_Words.mono : ∀ a0 k, LeO (weighbridgeref01_Words.f k a0) (weighbridgeref01_Words.f (k + 1) a0) := by
 intro a0 k
 have ih0 := weighbridgeref01_Words.mono_l k
 unfold weighbridgeref01_Words.f
 repeat' first
   | (with_reducible exact ih0 _ _ _)
   | (with_reducible exact LeO.refl _)
   | (with_reducible exact LeO.none _)
   | (with_reducible refine LeO.ite ?_ ?_)
   | (with_reducible refine LeO.bind ?_ (fun _ => ?_))
   | exact ih0 _ _ _
   | exact LeO.none _
   | refine LeO.ite ?_ ?_
   | refine LeO.bind ?_ (fun _ => ?_)
set_option maxHeartbeats 8000000 in
set_option maxRecDepth 100000 in
theorem weighbridgeref01_Words.calls (k : Nat) (a0 : ByteArray) (r : List Int) (w : World) (h : weighbridgeref01_Words.f k a0 = some r) :
  Calls Tryz.prog 71 #[.string a0] w fun e w' => ∃ v0_ : Value, e = .returned (v0_) ∧ Kd.R (Kd.int .i64) 3 w' w.heap.size (fun _ => True) v0_ r ∧ Below w.heap.size w w' := by
 have HB := AA (Below.refl w.heap.size w)
 have H : (weighbridgeref01_Words.l0 k a0 ([] : List Int) 0) = some r := h
 clear h
 have H' := AA H
 clear H
 go_enter Tryz.func71, Tryz.ntmps71
 go_wp2
 go_loopg [3, 4] k (fun kq v3 v4 w' => ∃ (x3_1 : List Int) (x4_1 : Int), v4 = .int .i64 x4_1 ∧ Aside0 (weighbridgeref01_Words.l0 kq a0 x3_1 x4_1 = some r) ∧ Aside0 (kq ≤ k) ∧ Aside0 (Kd.R (Kd.int .i64) 3 w' w.heap.size (fun _ => True) v3 x3_1) ∧ Aside0 (Below w.heap.size w w'))
 case atStart => exact ⟨(([] : List Int)), (0), (RS), H', ⟨Nat.le_refl _⟩, ⟨by first | exact Kd.R_nil _ _ _ _ _ | exact Kd.N_nil _ _ _ _ _ | exact Kd.V_nil _ _ _ _ _ | exact Kd.Q_nil _ _ _ _ _ | exact Kd.S_nil _ _ _ _ _⟩, ⟨BW HB⟩⟩
 case round =>
  clear H'
  obtain ⟨x3_1, x4_1, rfl, HA, HK1, HO_3, HB⟩ := hrel
  cases gk with
  | zero => exact absurd HA.out (by simp [weighbridgeref01_Words.l0])
  | succ k1 =>
   have H := HA.out
   clear HA
   simp only [weighbridgeref01_Words.l0] at H
   by_cases c2 : x4_1 < (a0.size : Int)
   rotate_left
   ·rw [if_neg c2] at H
    have c2b0 := decide_eq_false c2
    clear c2
    obtain rfl := Option.some.inj H
    go_wp2
    go_ret
    exact ⟨_, RT, by (with_reducible repeat (first | apply Kd.R_alloc | apply Kd.R_drewN | apply Kd.R_drew)); exact HO_3.out, BW HB⟩
   rw [if_pos c2] at H
   have c2b0 := decide_eq_true c2
   clear c2
   replace H := IT H
   obtain ⟨c3, H⟩ := H
   have c3b0 := decide_eq_true c3
   clear c3
   by_cases c5 : (wrap64 (x4_1 + 1)) < (a0.size : Int)
   ·rw [if_pos c5] at H
    have c5b0 := decide_eq_true c5
    clear c5
    obtain ⟨ji6, hji6⟩ : ∃ j_ : Int, (wrap64 (x4_1 + 1)) = j_ := ⟨_, rfl⟩
    replace H : (if 0 ≤ (ji6) then (if x3_1.length < 17592186044416 then (weighbridgeref01_Words.l0 k1 a0 (x3_1 ++ [wrap64 ((wrap64 (256 * (wrap64 (bt a0 x4_1)))) + (wrap64 (bt a0 (ji6))))]) (wrap64 (x4_1 + 2))) else (none)) else (none)) = some r := by first | (rw [hji6] at H; exact H) | (simp only [hji6] at H ⊢; exact H)
    (try rw [hji6] at c5b0)
    have hji6w : (IntKind.i64.wrap (x4_1 + 1)) = ji6 := (i64_w _).trans hji6
    replace H := IT H
    obtain ⟨c7, H⟩ := H
    have c7b0 := decide_eq_true c7
    clear c7
    replace H := IT H
    obtain ⟨c9, H⟩ := H
    have LMc9 := AA c9
    clear c9
    obtain ⟨y101, hy101⟩ : ∃ y_ : List Int, y_ = (x3_1 ++ [wrap64 ((wrap64 (256 * (wrap64 (bt a0 x4_1)))) + (wrap64 (bt a0 (ji6))))]) := ⟨_, rfl⟩
    replace H : (weighbridgeref01_Words.l0 k1 a0 y101 (wrap64 (x4_1 + 2))) = some r := by first | (rw [hy101]; with_reducible exact H) | (have H2_ := (Option.bind_some _ _).symm.trans H; rw [hy101]; with_reducible exact H2_) | (have H2_ := (Option.bind_some _ _).symm.trans H; with_reducible exact H2_) | with_reducible exact H | (rw [hy101]; exact H) | exact H
    have Ny101 := AA hy101
    clear hy101
    have H' := AA H
    clear H
    have p4 : 0 ≤ (x4_1 : Int) := DA
    have q4 : x4_1 < (a0.size : Int) := DA
    have hx4 := bt_at a0 x4_1
    replace p4 := eq_true p4
    replace q4 := eq_true q4
    have p8 : 0 ≤ ((ji6) : Int) := DA
    have q8 : (ji6) < (a0.size : Int) := DA
    have hx8 := bt_at a0 (ji6)
    replace p8 := eq_true p8
    replace q8 := eq_true q8
    go_wp2_with (first | ((with_reducible refine gate_builtin (b := .append) (xs := #[.tmp 29, .tmp 31]) rfl ?_); at_builtin; refine Kd.R_append (Kd.int .i64) (w0 := w) w.heap.size rfl (.tmp 29) (.tmp 31) 119 3 (.int .i64 0) 8 rfl Tryz.underlying119 info3 rfl (by decide) (by omega) u3 x3_1 (wrap64 ((wrap64 (256 * (wrap64 (bt a0 x4_1)))) + (wrap64 (bt a0 (ji6))))) [.int .i64 (wrap64 ((wrap64 (256 * (wrap64 (bt a0 x4_1)))) + (wrap64 (bt a0 (ji6)))))] (fun _ => True) (fun _ => False) rfl rfl ?aP (fun _ hk => hk.elim) ?aF ?aO ?aB ?aS ?aL ?_; (case aP => exact rfl); (case aB => exact (BW HB)); (case aF => exact (fun _ _ => trivial)); (case aO => exact (by (with_reducible repeat (first | apply Kd.R_alloc | apply Kd.R_drewN | apply Kd.R_drew)); exact HO_3.out)); (case aS => exact (below_size (BW HB))); (case aL => have := LMc9.out; omega); intro v102 w10 ho hb hg hat; rw [← Ny101.out] at ho; replace HB := AA hb; have HO103 := AA ho; clear HO_3; clear ho hb hg hat))
    go_roundg k1
    case measure => have := HK1.out; omega
    case rel => exact ⟨(y101), (wrap64 (x4_1 + 2)), QS, H', ⟨by have := HK1.out; omega⟩, ⟨by (with_reducible repeat (first | apply Kd.R_alloc | apply Kd.R_drewN | apply Kd.R_drew)); exact HO103.out⟩, ⟨BW HB⟩⟩
   rw [if_neg c5] at H
   have c5b0 := decide_eq_false c5
   clear c5
   by_cases c11 : x3_1.length < 17592186044416
   ·rw [if_pos c11] at H
    have LMc11 := AA c11
    clear c11
    obtain ⟨y104, hy104⟩ : ∃ y_ : List Int, y_ = (x3_1 ++ [wrap64 (256 * (wrap64 (bt a0 x4_1)))]) := ⟨_, rfl⟩
    replace H : (weighbridgeref01_Words.l0 k1 a0 y104 (wrap64 (x4_1 + 2))) = some r := by first | (rw [hy104]; with_reducible exact H) | (have H2_ := (Option.bind_some _ _).symm.trans H; rw [hy104]; with_reducible exact H2_) | (have H2_ := (Option.bind_some _ _).symm.trans H; with_reducible exact H2_) | with_reducible exact H | (rw [hy104]; exact H) | exact H
    have Ny104 := AA hy104
    clear hy104
    have H' := AA H
    clear H
    have p4 : 0 ≤ (x4_1 : Int) := DA
    have q4 : x4_1 < (a0.size : Int) := DA
    have hx4 := bt_at a0 x4_1
    replace p4 := eq_true p4
    replace q4 := eq_true q4
    go_wp2_with (first | ((with_reducible refine gate_builtin (b := .append) (xs := #[.tmp 29, .tmp 31]) rfl ?_); at_builtin; refine Kd.R_append (Kd.int .i64) (w0 := w) w.heap.size rfl (.tmp 29) (.tmp 31) 119 3 (.int .i64 0) 8 rfl Tryz.underlying119 info3 rfl (by decide) (by omega) u3 x3_1 (wrap64 (256 * (wrap64 (bt a0 x4_1)))) [.int .i64 (wrap64 (256 * (wrap64 (bt a0 x4_1))))] (fun _ => True) (fun _ => False) rfl rfl ?aP (fun _ hk => hk.elim) ?aF ?aO ?aB ?aS ?aL ?_; (case aP => exact rfl); (case aB => exact (BW HB)); (case aF => exact (fun _ _ => trivial)); (case aO => exact (by (with_reducible repeat (first | apply Kd.R_alloc | apply Kd.R_drewN | apply Kd.R_drew)); exact HO_3.out)); (case aS => exact (below_size (BW HB))); (case aL => have := LMc11.out; omega); intro v105 w12 ho hb hg hat; rw [← Ny104.out] at ho; replace HB := AA hb; have HO106 := AA ho; clear HO_3; clear ho hb hg hat))
    go_roundg k1
    case measure => have := HK1.out; omega
    case rel => exact ⟨(y104), (wrap64 (x4_1 + 2)), QS, H', ⟨by have := HK1.out; omega⟩, ⟨by (with_reducible repeat (first | apply Kd.R_alloc | apply Kd.R_drewN | apply Kd.R_drew)); exact HO106.out⟩, ⟨BW HB⟩⟩
   rw [if_neg c11] at H
   exact absurd H (by simp)

def wlI (l : List UInt8) : List Int := (Sp.wl l).map fun x => (x.toNat : Int)
theorem ref01_Words_l (s : ByteArray) (hs : s.size ≤ 17592186044416) (d : Nat) : ∀ (k i : Nat), s.size + 1 - 2 * i ≤ d → 2 * i ≤ s.size + 1 → d < k →
  weighbridgeref01_Words.l0 k s ((wlI (bl s)).take i) (2 * (i : Int)) = some (wlI (bl s)) := by
 have hlen : (wlI (bl s)).length = (s.size + 1) / 2 := by unfold wlI; rw [List.length_map, Sp.wl_length, bl_length]
 induction d with
 | zero =>
  intro k i hd hi hk
  obtain ⟨k, rfl⟩ : ∃ m, k = m + 1 := ⟨k - 1, by omega⟩
  simp only [weighbridgeref01_Words.l0]
  rw [if_neg (by omega), List.take_of_length_le (by omega)]
 | succ d ih =>
  intro k i hd hi hk
  obtain ⟨k, rfl⟩ : ∃ m, k = m + 1 := ⟨k - 1, by omega⟩
  simp only [weighbridgeref01_Words.l0]
  by_cases h : 2 * i < s.size
  rotate_left
  ·rw [if_neg (by omega), List.take_of_length_le (by omega)]
  have hn := ih k (i + 1) (by omega) (by omega) (by omega)
  have h1 : 2 * i < (bl s).length := by simpa using h
  have hb1 := ((bl s)[2 * i]'h1).toNat_lt
  have he1 : bt s (2 * (i : Int)) = ((bl s)[2 * i]'h1).toNat := by rw [ref01w_bt _ _ (by omega)]; congr 3
  rw [if_pos (by omega), if_pos (by omega), ref01w_wrap (n := 2 * (i : Int) + 1) (by omega) (by omega), he1, ref01w_wrap (n := (((bl s)[2 * i]'h1).toNat : Int)) (by omega) (by omega),
   ref01w_wrap (n := 256 * _) (by omega) (by omega), ref01w_wrap (n := 2 * (i : Int) + 2) (by omega) (by omega)]
  have ht : (List.take i (wlI (bl s))).length < 17592186044416 := by rw [List.length_take, hlen]; omega
  have e2 : 2 * ((i + 1 : Nat) : Int) = 2 * (i : Int) + 2 := by omega
  rw [e2] at hn
  by_cases h2 : 2 * i + 1 < s.size
  ·have h3 : 2 * i + 1 < (bl s).length := by simpa using h2
   have hb2 := ((bl s)[2 * i + 1]'h3).toNat_lt
   have he2 : bt s (2 * (i : Int) + 1) = ((bl s)[2 * i + 1]'h3).toNat := by rw [ref01w_bt _ _ (by omega)]; congr 3
   rw [if_pos (by omega), if_pos (by omega), if_pos ht, he2, ref01w_wrap (n := (((bl s)[2 * i + 1]'h3).toNat : Int)) (by omega) (by omega), ref01w_wrap (by omega) (by omega)]
   have hw := Sp.wl_get_two (bl s) i h3
   have hg : (wlI (bl s))[i]? = some (256 * (((bl s)[2 * i]'h1).toNat : Int) + (((bl s)[2 * i + 1]'h3).toNat : Int)) := by
    unfold wlI; rw [List.getElem?_map, hw]
    simp [UInt16.toNat_ofNat']; omega
   obtain ⟨hk2, e3⟩ := List.getElem?_eq_some_iff.1 hg
   rw [List.take_succ_eq_append_getElem hk2, e3] at hn
   exact hn
  rw [if_neg (by omega), if_pos ht]
  have hw := Sp.wl_get_one (bl s) i h1 (by simpa using h2)
  have hg : (wlI (bl s))[i]? = some (256 * (((bl s)[2 * i]'h1).toNat : Int)) := by
   unfold wlI; rw [List.getElem?_map, hw]
   simp [UInt16.toNat_ofNat']; omega
  obtain ⟨hk2, e3⟩ := List.getElem?_eq_some_iff.1 hg
  rw [List.take_succ_eq_append_getElem hk2, e3] at hn
  exact hn
theorem ref01_Words_ev (s : ByteArray) (hs : s.size ≤ 17592186044416) : weighbridgeref01_Words.f (s.size + 2) s = some (wlI (bl s)) := by
 have := ref01_Words_l s hs (s.size + 1) (s.size + 2) 0 (by omega) (by omega) (by omega)
 unfold weighbridgeref01_Words.f
 simpa using this

/-! ### weighbridgeref01_Put_p: function 52 -/
mutual
def weighbridgeref01_Put_p.j0 : Nat → Int → Int → Bool → Option (ByteArray × Bool)
 | 0, _, _, _ => none
 | k + 1, x0, x1, x24 => if x24 = true then (some ((⟨#[]⟩ : ByteArray), false)) else (weighbridgeref01_Put_p.l0 k x0 x1 (⟨#[]⟩ : ByteArray) 0)
def weighbridgeref01_Put_p.l0 : Nat → Int → Int → ByteArray → Int → Option (ByteArray × Bool)
 | 0, _, _, _, _ => none
 | k + 1, x0, x1, x6, x7 => if x7 < x0 then ((some (([(x1) % 256] : List Int) : List Int)).bind fun y121 => (if (strOfNums y121).size + x6.size ≤ 9223372036854775807 then (weighbridgeref01_Put_p.l0 k x0 (wrap64 (Int.tdiv x1 256)) ((strOfNums y121) ++ x6) (wrap64 (x7 + 1))) else (none))) else (some (x6, true))
end
def weighbridgeref01_Put_p.f (k : Nat) (a0 : Int) (a1 : Int) : Option (ByteArray × Bool) := if a0 < 1 then (weighbridgeref01_Put_p.j0 k a0 a1 true) else (if a0 > 4 then (weighbridgeref01_Put_p.j0 k a0 a1 true) else (if a1 < 0 then (weighbridgeref01_Put_p.j0 k a0 a1 true) else (if 0 ≤ (wrap64 (8 * a0)) then (weighbridgeref01_Put_p.j0 k a0 a1 (decide (a1 ≥ (shl .i64 1 (wrap64 (8 * a0)))))) else (none))))
theorem weighbridgeref01_Put_p.mono_l : ∀ k, (∀ y0 y1 y2, LeO (weighbridgeref01_Put_p.j0 k y0 y1 y2) (weighbridgeref01_Put_p.j0 (k + 1) y0 y1 y2)) ∧ (∀ y0 y1 y2 y3, LeO (weighbridgeref01_Put_p.l0 k y0 y1 y2 y3) (weighbridgeref01_Put_p.l0 (k + 1) y0 y1 y2 y3))
 | 0 => ⟨fun _ _ _ r h => by simp [weighbridgeref01_Put_p.j0] at h, fun _ _ _ _ r h => by simp [weighbridgeref01_Put_p.l0] at h⟩
 | k + 1 => by
  obtain ⟨ih0, ih1⟩ := weighbridgeref01_Put_p.mono_l k
  refine ⟨?_, ?_⟩
  ·intro y0 y1 y2
   unfold weighbridgeref01_Put_p.j0
   repeat' first
   | (with_reducible exact ih0 _ _ _)
   | (with_reducible exact ih1 _ _ _ _)
   | (with_reducible exact LeO.refl _)
   | (with_reducible exact LeO.none _)
   | (with_reducible refine LeO.ite ?_ ?_)
   | (with_reducible refine LeO.bind ?_ (fun _ => ?_))
   | exact ih0 _ _ _
   | exact ih1 _ _ _ _
   | exact LeO.none _
   | refine LeO.ite ?_ ?_
   | refine LeO.bind ?_ (fun _ => ?_)
  ·intro y0 y1 y2 y3
   unfold weighbridgeref01_Put_p.l0
   repeat' first
   | (with_reducible exact ih0 _ _ _)
   | (with_reducible exact ih1 _ _ _ _)
   | (with_reducible exact LeO.refl _)
   | (with_reducible exact LeO.none _)
   | (with_reducible refine LeO.ite ?_ ?_)
   | (with_reducible refine LeO.bind ?_ (fun _ => ?_))
   | exact ih0 _ _ _
   | exact ih1 _ _ _ _
   | exact LeO.none _
   | refine LeO.ite ?_ ?_
   | refine LeO.bind ?_ (fun _ => ?_)
theorem weighbridgeref01_Put_p.mono : ∀ a0 a1 k, LeO (weighbridgeref01_Put_p.f k a0 a1) (weighbridgeref01_Put_p.f (k + 1) a0 a1) := by
 intro a0 a1 k
 obtain ⟨ih0, ih1⟩ := weighbridgeref01_Put_p.mono_l k
 unfold weighbridgeref01_Put_p.f
 repeat' first
   | (with_reducible exact ih0 _ _ _)
   | (with_reducible exact ih1 _ _ _ _)
   | (with_reducible exact LeO.refl _)
   | (with_reducible exact LeO.none _)
   | (with_reducible refine LeO.ite ?_ ?_)
   | (with_reducible refine LeO.bind ?_ (fun _ => ?_))
   | exact ih0 _ _ _
   | exact ih1 _ _ _ _
   | exact LeO.none _
   | refine LeO.ite ?_ ?_
   | refine LeO.bind ?_ (fun _ => ?_)
set_option maxHeartbeats 8000000 in
set_option maxRecDepth 100000 in
theorem weighbridgeref01_Put_p.calls (k : Nat) (a0 : Int) (a1 : Int) (r1 : ByteArray) (r2 : Bool) (w : World) (h : weighbridgeref01_Put_p.f k a0 a1 = some (r1, r2)) :
  Calls Tryz.prog 52 #[.int .i64 a0, .int .i64 a1] w fun e w' => e = .returned (.tuple #[.string r1, .bool r2]) ∧ Below w.heap.size w w' := by
 have HB := AA (Below.refl w.heap.size w)
 have H := h
 unfold weighbridgeref01_Put_p.f at H
 clear h
 have HC3 := AA H
 clear H
 go_enter Tryz.func52, Tryz.ntmps52
 go_upto_region 1 with (fail)
 go_cut [24] (fun v24 wc => ∃ (kq : Nat) (x24_2 : Bool), v24 = .bool x24_2 ∧ Aside0 (weighbridgeref01_Put_p.j0 kq a0 a1 x24_2 = some (r1, r2)) ∧ Aside0 (kq ≤ k) ∧ Aside0 (Below w.heap.size w wc))
 case first =>
  have H := HC3.out
  clear HC3
  by_cases c4 : a0 < 1
  ·rw [if_pos c4] at H
   have c4b0 := decide_eq_true c4
   clear c4
   (first | rw [c4b0] | (simp only [i64_w, i32_w]; rw [c4b0]) | skip)
   have H' := AA H
   clear H
   go_wp2
   go_meet
   case rel => exact ⟨_, (true), QS, H', LR, ⟨BW HB⟩⟩
  rw [if_neg c4] at H
  have c4b0 := decide_eq_false c4
  clear c4
  (first | rw [c4b0] | (simp only [i64_w, i32_w]; rw [c4b0]) | skip)
  by_cases c5 : a0 > 4
  ·rw [if_pos c5] at H
   have c5b0 : decide (4 < a0) = true := decide_eq_true c5
   clear c5
   have H' := AA H
   clear H
   go_wp2
   go_meet
   case rel => exact ⟨_, (true), QS, H', LR, ⟨BW HB⟩⟩
  rw [if_neg c5] at H
  have c5b0 : decide (4 < a0) = false := decide_eq_false c5
  clear c5
  by_cases c6 : a1 < 0
  ·rw [if_pos c6] at H
   have c6b0 := decide_eq_true c6
   clear c6
   have H' := AA H
   clear H
   go_wp2
   go_meet
   case rel => exact ⟨_, (true), QS, H', LR, ⟨BW HB⟩⟩
  rw [if_neg c6] at H
  have c6b0 := decide_eq_false c6
  clear c6
  obtain ⟨ji7, hji7⟩ : ∃ j_ : Int, (wrap64 (8 * a0)) = j_ := ⟨_, rfl⟩
  replace H : (if 0 ≤ (ji7) then (weighbridgeref01_Put_p.j0 k a0 a1 (decide (a1 ≥ (shl .i64 1 (ji7))))) else (none)) = some (r1, r2) := by first | (rw [hji7] at H; exact H) | (simp only [hji7] at H ⊢; exact H)
  have hji7w : (IntKind.i64.wrap (8 * a0)) = ji7 := (i64_w _).trans hji7
  by_cases c8 : 0 ≤ (ji7)
  ·rw [if_pos c8] at H
   have c8b0 := eq_true c8
   have c8b1 := decide_eq_true c8
   clear c8
   obtain ⟨ji9, hji9⟩ : ∃ j_ : Int, (shl .i64 1 (ji7)) = j_ := ⟨_, rfl⟩
   replace H : (weighbridgeref01_Put_p.j0 k a0 a1 (decide (a1 ≥ (ji9)))) = some (r1, r2) := by first | (rw [hji9] at H; exact H) | (simp only [hji9] at H ⊢; exact H)
   have hji9_ : (IntKind.i64.wrap (1 * 2 ^ min (ji7).toNat 64)) = ji9 := hji9
   have hji9z : (ji7) ≤ 64 → (IntKind.i64.wrap (1 * 2 ^ (ji7).toNat)) = ji9 := shl_small hji9
   have hji9u : (IntKind.i64.wrap (2 ^ min (ji7).toNat 64)) = ji9 := by have h_ := hji9_; rw [Int.one_mul] at h_; exact h_
   have hji9v : (ji7) ≤ 64 → (IntKind.i64.wrap (2 ^ (ji7).toNat)) = ji9 := fun hle_ => by have h_ := hji9z hle_; rw [Int.one_mul] at h_; exact h_
   have hji9y : (wrap64 (1 * 2 ^ min (ji7).toNat 64)) = ji9 := (i64_w _).symm.trans hji9_
   have hji9x : (ji7) ≤ 64 → (wrap64 (1 * 2 ^ (ji7).toNat)) = ji9 := fun h_ => (i64_w _).symm.trans (hji9z h_)
   have H' := AA H
   clear H
   go_wp2
   go_meet
   case rel => exact ⟨_, (decide (a1 ≥ (ji9))), (by first | rfl | (simp; done) | (congr 2; simp only [ByteArray.size_extract, ByteArray.size_append]; (try have := of_eq_true c8b0); (try unfold wrap64); omega) | (simp only [ByteArray.size_extract, ByteArray.size_append, Nat.sub_zero]; done) | (congr 1; simp only [ByteArray.size_extract, ByteArray.size_append, Nat.sub_zero]; (try have := of_eq_true c8b0); omega) | (simp only [← hji9] <;> (first | rfl | simp)) | (simp [*]; done)), H', LR, ⟨BW HB⟩⟩
  rw [if_neg c8] at H
  exact absurd H (by simp)
 case rest =>
  clear HC3
  try clear p2; try clear c4; try clear c4b0; try clear c5; try clear c5b0; try clear c6; try clear c6b0; try clear p6; try clear c8; try clear c8b0; try clear c8b1
  obtain ⟨kq, x24_2, rfl, HA, HJ2, HB⟩ := hcut
  cases kq with
  | zero => exact absurd HA.out (by simp [weighbridgeref01_Put_p.j0])
  | succ kj2 =>
   have H := HA.out
   clear HA
   simp only [weighbridgeref01_Put_p.j0] at H
   by_cases c10 : x24_2 = true
   ·subst c10
    first | rw [if_pos rfl] at H | rw [if_pos trivial] at H
    simp only [Option.some.injEq, Prod.mk.injEq] at H
    obtain ⟨rfl, rfl⟩ := H
    go_wp2
    go_ret2
    exact ⟨RT, BW HB⟩
   replace c10 := Bool.eq_false_iff.mpr c10
   subst c10
   replace H := IFN H
   have H' := AA H
   clear H
   go_wp2
   go_loopg [1, 6, 7] kj2 (fun kq v1 v6 v7 w' => ∃ (x1_2 : Int) (x6_2 : ByteArray) (x7_2 : Int), v1 = .int .i64 x1_2 ∧ v6 = .string x6_2 ∧ v7 = .int .i64 x7_2 ∧ Aside0 (weighbridgeref01_Put_p.l0 kq a0 x1_2 x6_2 x7_2 = some (r1, r2)) ∧ Aside0 (kq ≤ kj2) ∧ Aside0 (Below w.heap.size w w'))
   case atStart => exact ⟨(a1), ((⟨#[]⟩ : ByteArray)), (0), (RS), (RS), (RS), H', ⟨Nat.le_refl _⟩, ⟨BW HB⟩⟩
   case round =>
    clear H'
    try clear c1; try clear p2; try clear c4; try clear c4b0; try clear c5; try clear c5b0; try clear c6; try clear c6b0; try clear p6; try clear c8; try clear c8b0; try clear c8b1; try clear c10; try clear p2; try clear p6
    obtain ⟨x1_2, x6_2, x7_2, rfl, rfl, rfl, HA, HK2, HB⟩ := hrel
    cases gk with
    | zero => exact absurd HA.out (by simp [weighbridgeref01_Put_p.l0])
    | succ k2 =>
     have H := HA.out
     clear HA
     simp only [weighbridgeref01_Put_p.l0] at H
     by_cases c11 : x7_2 < a0
     ·rw [if_pos c11] at H
      have c11b0 := decide_eq_true c11
      clear c11
      obtain ⟨y121, hy121⟩ : ∃ y_ : List Int, y_ = (([(x1_2) % 256] : List Int)) := ⟨_, rfl⟩
      replace H : (if (strOfNums y121).size + x6_2.size ≤ 9223372036854775807 then (weighbridgeref01_Put_p.l0 k2 a0 (wrap64 (Int.tdiv x1_2 256)) ((strOfNums y121) ++ x6_2) (wrap64 (x7_2 + 1))) else (none)) = some (r1, r2) := by first | (rw [hy121]; with_reducible exact H) | (have H2_ := (Option.bind_some _ _).symm.trans H; rw [hy121]; with_reducible exact H2_) | (have H2_ := (Option.bind_some _ _).symm.trans H; with_reducible exact H2_) | with_reducible exact H | (rw [hy121]; exact H) | exact H
      have Ny121 := AA hy121
      clear hy121
      by_cases c12 : (strOfNums y121).size + x6_2.size ≤ 9223372036854775807
      ·rw [if_pos c12] at H
       have c12b0 := eq_true c12
       have c12b1 := decide_eq_true c12
       try have c12b2 := eq_false (Nat.not_lt.2 c12)
       have H' := AA H
       clear H
       go_wp2_with (first | ((with_reducible refine gate_dst (N := 32) rfl ?_); refine Kd.R_lit (Kd.int .u8) _ 5 ?hg (N := 32) ?hd (xs := ([(x1_2) % 256] : List Int)) (inner := [.int .u8 ((x1_2) % 256)]) (ok := fun _ => True) (okp := fun _ => True) ?hr ?hp (fun _ hk => hk) trivial (Below.refl _ _) (Nat.le_refl _) (by simp) ?_; (case hd => rfl); (case hg => rfl); (case hr => first | (go_simp; done) | (go_simp; rfl)); (case hp => exact (Reps.one (show Kd.M (Kd.int .u8) _ _ _ ((x1_2) % 256) [.int .u8 ((x1_2) % 256)] from rfl) (Reps.none _ _))); intro v122 w13 ho14 hb hg_ hnew_; clear hg_ hnew_; (first | rw [← Ny121.out] at ho14 | (simp only [Int.reduceToNat] at ho14; rw [← Ny121.out] at ho14)); have HO123 := AA (Kd.R_lower ho14 (below_size (BW HB))); replace HB := BS HB hb; clear hb ho14; have hcv15 := own_string (P := Tryz.prog) Tryz.underlying40 Tryz.underlying5 Tryz.underlying9 (Kd.own_of_R HO123.out)))
       go_roundg k2
       case measure => have := HJ2.out; have := HK2.out; omega
       case rel => exact ⟨(wrap64 (Int.tdiv x1_2 256)), ((strOfNums y121) ++ x6_2), (wrap64 (x7_2 + 1)), (by first | rfl | (simp; done) | (congr 2; simp only [ByteArray.size_extract, ByteArray.size_append]; (try have := of_eq_true c12b0); (try unfold wrap64); omega) | (simp only [ByteArray.size_extract, ByteArray.size_append, Nat.sub_zero]; done) | (congr 1; simp only [ByteArray.size_extract, ByteArray.size_append, Nat.sub_zero]; (try have := of_eq_true c12b0); omega) | (simp [*]; done)), (by first | rfl | (simp; done) | (congr 2; simp only [ByteArray.size_extract, ByteArray.size_append]; (try have := of_eq_true c12b0); (try unfold wrap64); omega) | (simp only [ByteArray.size_extract, ByteArray.size_append, Nat.sub_zero]; done) | (congr 1; simp only [ByteArray.size_extract, ByteArray.size_append, Nat.sub_zero]; (try have := of_eq_true c12b0); omega) | (simp [*]; done)), (by first | rfl | (simp; done) | (congr 2; simp only [ByteArray.size_extract, ByteArray.size_append]; (try have := of_eq_true c12b0); (try unfold wrap64); omega) | (simp only [ByteArray.size_extract, ByteArray.size_append, Nat.sub_zero]; done) | (congr 1; simp only [ByteArray.size_extract, ByteArray.size_append, Nat.sub_zero]; (try have := of_eq_true c12b0); omega) | (simp [*]; done)), H', ⟨by have := HJ2.out; have := HK2.out; omega⟩, ⟨BW HB⟩⟩
      rw [if_neg c12] at H
      exact absurd H (by simp)
     rw [if_neg c11] at H
     have c11b0 := decide_eq_false c11
     clear c11
     simp only [Option.some.injEq, Prod.mk.injEq] at H
     obtain ⟨rfl, rfl⟩ := H
     go_wp2
     go_ret2
     exact ⟨RT, BW HB⟩

theorem ref01_Put_l (a0 : Int) (d : Nat) : ∀ (k : Nat) (n i : Int) (acc : List UInt8), a0 - i = d → 0 ≤ i → a0 ≤ 4 → d < k → 0 ≤ n → n ≤ 9223372036854775807 → acc.length = i.toNat →
  weighbridgeref01_Put_p.l0 k a0 n (lb acc) i = some (lb (Sp.beBytes d n ++ acc), true) := by
 induction d with
 | zero =>
  intro k n i acc hd h0 h4 hk hn hn2 ha
  obtain ⟨k, rfl⟩ : ∃ m, k = m + 1 := ⟨k - 1, by omega⟩
  simp only [weighbridgeref01_Put_p.l0]
  rw [if_neg (by omega)]; rfl
 | succ d ih =>
  intro k n i acc hd h0 h4 hk hn hn2 ha
  obtain ⟨k, rfl⟩ : ∃ m, k = m + 1 := ⟨k - 1, by omega⟩
  have hr := ih k (n / 256) (i + 1) ([UInt8.ofNat (n % 256).toNat] ++ acc) (by omega) (by omega) h4 (by omega) (by omega) (by omega) (by simp; omega)
  simp only [weighbridgeref01_Put_p.l0]
  rw [if_pos (by omega)]
  simp only [Option.bind_some]
  rw [one_byte, if_pos (by simp; omega), Sp.lb_append, ref01_wrap (n := i + 1) (by omega) (by omega)]
  have e : wrap64 (Int.tdiv n 256) = n / 256 := by rw [Int.tdiv_eq_ediv_of_nonneg hn, ref01_wrap (by omega) (by omega)]
  rw [e, hr, Sp.beBytes, List.append_assoc]
theorem ref01_Put_ev (a0 a1 : Int) (hr : -9223372036854775808 ≤ a1 ∧ a1 ≤ 9223372036854775807) : ∃ k, weighbridgeref01_Put_p.f k a0 a1 = some (lb (Sp.put a0 a1).1, (Sp.put a0 a1).2) := by
 refine ⟨7, ?_⟩
 unfold weighbridgeref01_Put_p.f
 by_cases h1 : a0 < 1
 ·rw [if_pos h1, Sp.put_no (by unfold Sp.fits; exact decide_eq_false (by omega))]; rfl
 by_cases h2 : a0 > 4
 ·rw [if_neg h1, if_pos h2, Sp.put_no (by unfold Sp.fits; exact decide_eq_false (by omega))]; rfl
 by_cases h3 : a1 < 0
 ·rw [if_neg h1, if_neg h2, if_pos h3, Sp.put_no (by unfold Sp.fits; exact decide_eq_false (by omega))]; rfl
 rw [if_neg h1, if_neg h2, if_neg h3, ref01_wrap (by omega) (by omega), if_pos (by omega)]
 obtain ⟨sz, rfl⟩ := Int.eq_ofNat_of_zero_le (show 0 ≤ a0 by omega)
 have he : shl .i64 1 (8 * (sz : Int)) = 256 ^ sz := by
  rw [show 8 * (sz : Int) = ((8 * sz : Nat) : Int) by omega, shl_one (by omega), Int.pow_mul]; rfl
 rw [he]
 by_cases h : a1 ≥ 256 ^ sz
 ·rw [decide_eq_true h, Sp.put_no (by unfold Sp.fits; exact decide_eq_false (by rintro ⟨_, _, _, h4⟩; rw [Int.toNat_natCast] at h4; omega))]
  rfl
 rw [decide_eq_false h, Sp.put_yes (Sp.fits_iff.2 ⟨by omega, by omega, by omega, by rw [Int.toNat_natCast]; omega⟩)]
 simp only [weighbridgeref01_Put_p.j0]
 rw [if_neg (by decide)]
 have := ref01_Put_l (sz : Int) sz 6 a1 0 [] (by omega) (by omega) (by omega) (by omega) (by omega) hr.2 rfl
 rw [List.append_nil] at this
 exact this
def weighbridgeref01_Put.f (a0 a1 : Int) : Option (ByteArray × Bool) := if -9223372036854775808 ≤ a1 ∧ a1 ≤ 9223372036854775807 then some (lb (Sp.put a0 a1).1, (Sp.put a0 a1).2) else none
theorem weighbridgeref01_Put_eq (a0 a1 : Int) (h0 : -9223372036854775808 ≤ a1) (h1 : a1 ≤ 9223372036854775807) : weighbridgeref01_Put.f a0 a1 = some (lb (Sp.put a0 a1).1, (Sp.put a0 a1).2) := by
 unfold weighbridgeref01_Put.f; exact if_pos ⟨h0, h1⟩
theorem weighbridgeref01_Put.calls (a0 : Int) (a1 : Int) (r1 : ByteArray) (r2 : Bool) (w : World) (h : weighbridgeref01_Put.f a0 a1 = some (r1, r2)) :
  Calls Tryz.prog 52 #[.int .i64 a0, .int .i64 a1] w fun e w' => e = .returned (.tuple #[.string r1, .bool r2]) ∧ Below w.heap.size w w' := by
 unfold weighbridgeref01_Put.f at h
 split at h
 case isFalse => cases h
 case isTrue hr =>
  obtain ⟨k, hk⟩ := ref01_Put_ev a0 a1 hr
  exact weighbridgeref01_Put_p.calls k a0 a1 r1 r2 w (hk.trans h)
/-! ### weighbridgeref01_Get_p: function 29 -/
mutual
def weighbridgeref01_Get_p.j0 : Nat → ByteArray → Int → Int → Bool → Option (Int × Bool)
 | 0, _, _, _, _ => none
 | k + 1, x0, x1, x2, x27 => if x27 = true then (some (0, false)) else (weighbridgeref01_Get_p.l0 k x0 x1 x2 0 0)
def weighbridgeref01_Get_p.l0 : Nat → ByteArray → Int → Int → Int → Int → Option (Int × Bool)
 | 0, _, _, _, _, _ => none
 | k + 1, x0, x1, x2, x8, x9 => if x9 < x2 then (if 0 ≤ (wrap64 (x1 + x9)) then (if (wrap64 (x1 + x9)) < (x0.size : Int) then (weighbridgeref01_Get_p.l0 k x0 x1 x2 (wrap64 ((wrap64 (x8 * 256)) + (wrap64 (bt x0 (wrap64 (x1 + x9)))))) (wrap64 (x9 + 1))) else (none)) else (none)) else (some (x8, true))
end
def weighbridgeref01_Get_p.f (k : Nat) (a0 : ByteArray) (a1 : Int) (a2 : Int) : Option (Int × Bool) := if a2 < 1 then (weighbridgeref01_Get_p.j0 k a0 a1 a2 true) else (if a2 > 4 then (weighbridgeref01_Get_p.j0 k a0 a1 a2 true) else (if a1 < 0 then (weighbridgeref01_Get_p.j0 k a0 a1 a2 true) else (weighbridgeref01_Get_p.j0 k a0 a1 a2 (decide (a1 > (wrap64 ((a0.size : Int) - a2)))))))
theorem weighbridgeref01_Get_p.mono_l : ∀ k, (∀ y0 y1 y2 y3, LeO (weighbridgeref01_Get_p.j0 k y0 y1 y2 y3) (weighbridgeref01_Get_p.j0 (k + 1) y0 y1 y2 y3)) ∧ (∀ y0 y1 y2 y3 y4, LeO (weighbridgeref01_Get_p.l0 k y0 y1 y2 y3 y4) (weighbridgeref01_Get_p.l0 (k + 1) y0 y1 y2 y3 y4))
 | 0 => ⟨fun _ _ _ _ r h => by simp [weighbridgeref01_Get_p.j0] at h, fun _ _ _ _ _ r h => by simp [weighbridgeref01_Get_p.l0] at h⟩
 | k + 1 => by
  obtain ⟨ih0, ih1⟩ := weighbridgeref01_Get_p.mono_l k
  refine ⟨?_, ?_⟩
  ·intro y0 y1 y2 y3
   unfold weighbridgeref01_Get_p.j0
   repeat' first
   | (with_reducible exact ih0 _ _ _ _)
   | (with_reducible exact ih1 _ _ _ _ _)
   | (with_reducible exact LeO.refl _)
   | (with_reducible exact LeO.none _)
   | (with_reducible refine LeO.ite ?_ ?_)
   | (with_reducible refine LeO.bind ?_ (fun _ => ?_))
   | exact ih0 _ _ _ _
   | exact ih1 _ _ _ _ _
   | exact LeO.none _
   | refine LeO.ite ?_ ?_
   | refine LeO.bind ?_ (fun _ => ?_)
  ·intro y0 y1 y2 y3 y4
   unfold weighbridgeref01_Get_p.l0
   repeat' first
   | (with_reducible exact ih0 _ _ _ _)
   | (with_reducible exact ih1 _ _ _ _ _)
   | (with_reducible exact LeO.refl _)
   | (with_reducible exact LeO.none _)
   | (with_reducible refine LeO.ite ?_ ?_)
   | (with_reducible refine LeO.bind ?_ (fun _ => ?_))
   | exact ih0 _ _ _ _
   | exact ih1 _ _ _ _ _
   | exact LeO.none _
   | refine LeO.ite ?_ ?_
   | refine LeO.bind ?_ (fun _ => ?_)
theorem weighbridgeref01_Get_p.mono : ∀ a0 a1 a2 k, LeO (weighbridgeref01_Get_p.f k a0 a1 a2) (weighbridgeref01_Get_p.f (k + 1) a0 a1 a2) := by
 intro a0 a1 a2 k
 obtain ⟨ih0, ih1⟩ := weighbridgeref01_Get_p.mono_l k
 unfold weighbridgeref01_Get_p.f
 repeat' first
   | (with_reducible exact ih0 _ _ _ _)
   | (with_reducible exact ih1 _ _ _ _ _)
   | (with_reducible exact LeO.refl _)
   | (with_reducible exact LeO.none _)
   | (with_reducible refine LeO.ite ?_ ?_)
   | (with_reducible refine LeO.bind ?_ (fun _ => ?_))
   | exact ih0 _ _ _ _
   | exact ih1 _ _ _ _ _
   | exact LeO.none _
   | refine LeO.ite ?_ ?_
   | refine LeO.bind ?_ (fun _ => ?_)
set_option maxHeartbeats 8000000 in
set_option maxRecDepth 100000 in
theorem weighbridgeref01_Get_p.calls (k : Nat) (a0 : ByteArray) (a1 : Int) (a2 : Int) (r1 : Int) (r2 : Bool) (w : World) (h : weighbridgeref01_Get_p.f k a0 a1 a2 = some (r1, r2)) :
  Calls Tryz.prog 29 #[.string a0, .int .i64 a1, .int .i64 a2] w fun e w' => e = .returned (.tuple #[.int .i64 r1, .bool r2]) ∧ Drawn0 w w' := by
 have H := h
 unfold weighbridgeref01_Get_p.f at H
 clear h
 have HC4 := AA H
 clear H
 go_enter Tryz.func29, Tryz.ntmps29
 go_upto_region 1 with (fail)
 go_cut [27] (fun v27 wc => ∃ (kq : Nat) (x27_3 : Bool), v27 = .bool x27_3 ∧ Aside0 (weighbridgeref01_Get_p.j0 kq a0 a1 a2 x27_3 = some (r1, r2)) ∧ Aside0 (kq ≤ k) ∧ Drawn0 w wc)
 case first =>
  have H := HC4.out
  clear HC4
  by_cases c5 : a2 < 1
  ·rw [if_pos c5] at H
   have c5b0 := decide_eq_true c5
   clear c5
   (first | rw [c5b0] | (simp only [i64_w, i32_w]; rw [c5b0]) | skip)
   have H' := AA H
   clear H
   go_wp2
   go_meet
   case rel => exact ⟨_, (true), QS, H', LR, DW⟩
  rw [if_neg c5] at H
  have c5b0 := decide_eq_false c5
  clear c5
  (first | rw [c5b0] | (simp only [i64_w, i32_w]; rw [c5b0]) | skip)
  by_cases c6 : a2 > 4
  ·rw [if_pos c6] at H
   have c6b0 : decide (4 < a2) = true := decide_eq_true c6
   clear c6
   have H' := AA H
   clear H
   go_wp2
   go_meet
   case rel => exact ⟨_, (true), QS, H', LR, DW⟩
  rw [if_neg c6] at H
  have c6b0 : decide (4 < a2) = false := decide_eq_false c6
  clear c6
  by_cases c7 : a1 < 0
  ·rw [if_pos c7] at H
   have c7b0 := decide_eq_true c7
   clear c7
   have H' := AA H
   clear H
   go_wp2
   go_meet
   case rel => exact ⟨_, (true), QS, H', LR, DW⟩
  rw [if_neg c7] at H
  have c7b0 := decide_eq_false c7
  clear c7
  have H' := AA H
  clear H
  go_wp2
  go_meet
  case rel => exact ⟨_, (decide (a1 > (wrap64 ((a0.size : Int) - a2)))), QS, H', LR, DW⟩
 case rest =>
  clear HC4
  try clear c2; try clear p2; try clear c5; try clear c5b0; try clear c6; try clear c6b0; try clear p6; try clear c7; try clear c7b0
  obtain ⟨kq, x27_3, rfl, HA, HJ3, ⟨mc3, rfl⟩⟩ := hcut
  cases kq with
  | zero => exact absurd HA.out (by simp [weighbridgeref01_Get_p.j0])
  | succ kj3 =>
   have H := HA.out
   clear HA
   simp only [weighbridgeref01_Get_p.j0] at H
   by_cases c8 : x27_3 = true
   ·subst c8
    first | rw [if_pos rfl] at H | rw [if_pos trivial] at H
    simp only [Option.some.injEq, Prod.mk.injEq] at H
    obtain ⟨rfl, rfl⟩ := H
    go_wp2
    go_ret2
    exact ⟨RS, DW⟩
   replace c8 := Bool.eq_false_iff.mpr c8
   subst c8
   replace H := IFN H
   have H' := AA H
   clear H
   go_wp2
   go_loopg [8, 9] kj3 (fun kq v8 v9 w' => ∃ (x8_2 : Int) (x9_2 : Int), v8 = .int .i64 x8_2 ∧ v9 = .int .i64 x9_2 ∧ Aside0 (weighbridgeref01_Get_p.l0 kq a0 a1 a2 x8_2 x9_2 = some (r1, r2)) ∧ Aside0 (kq ≤ kj3) ∧ Drawn0 w w')
   case atStart => exact ⟨(0), (0), (RS), (RS), H', ⟨Nat.le_refl _⟩, DW⟩
   case round =>
    clear H'
    try clear c2; try clear p2; try clear c3; try clear c5; try clear c5b0; try clear c6; try clear c6b0; try clear p6; try clear c7; try clear c7b0; try clear c8; try clear p2; try clear p6
    obtain ⟨x8_2, x9_2, rfl, rfl, HA, HK2, ⟨m2, rfl⟩⟩ := hrel
    cases gk with
    | zero => exact absurd HA.out (by simp [weighbridgeref01_Get_p.l0])
    | succ k2 =>
     have H := HA.out
     clear HA
     simp only [weighbridgeref01_Get_p.l0] at H
     by_cases c9 : x9_2 < a2
     rotate_left
     ·rw [if_neg c9] at H
      have c9b0 := decide_eq_false c9
      clear c9
      simp only [Option.some.injEq, Prod.mk.injEq] at H
      obtain ⟨rfl, rfl⟩ := H
      go_wp2
      go_ret2
      exact ⟨RS, DW⟩
     rw [if_pos c9] at H
     have c9b0 := decide_eq_true c9
     clear c9
     obtain ⟨ji10, hji10⟩ : ∃ j_ : Int, (wrap64 (a1 + x9_2)) = j_ := ⟨_, rfl⟩
     replace H : (if 0 ≤ (ji10) then (if (ji10) < (a0.size : Int) then (weighbridgeref01_Get_p.l0 k2 a0 a1 a2 (wrap64 ((wrap64 (x8_2 * 256)) + (wrap64 (bt a0 (ji10))))) (wrap64 (x9_2 + 1))) else (none)) else (none)) = some (r1, r2) := by first | (rw [hji10] at H; exact H) | (simp only [hji10] at H ⊢; exact H)
     have hji10w : (IntKind.i64.wrap (a1 + x9_2)) = ji10 := (i64_w _).trans hji10
     by_cases c11 : 0 ≤ (ji10)
     ·rw [if_pos c11] at H
      have c11b0 := decide_eq_true c11
      clear c11
      by_cases c12 : (ji10) < (a0.size : Int)
      ·rw [if_pos c12] at H
       have c12b0 := decide_eq_true c12
       clear c12
       have H' := AA H
       clear H
       have p13 : 0 ≤ ((ji10) : Int) := DA
       have q13 : (ji10) < (a0.size : Int) := DA
       have hx13 := bt_at a0 (ji10)
       replace p13 := eq_true p13
       replace q13 := eq_true q13
       go_wp2
       go_roundg k2
       case measure => have := HJ3.out; have := HK2.out; omega
       case rel => exact ⟨(wrap64 ((wrap64 (x8_2 * 256)) + (wrap64 (bt a0 (ji10))))), (wrap64 (x9_2 + 1)), (by first | rfl | (simp; done) | (congr 2; simp only [ByteArray.size_extract, ByteArray.size_append]; (try unfold wrap64); omega) | (simp only [ByteArray.size_extract, ByteArray.size_append, Nat.sub_zero]; done) | (congr 1; simp only [ByteArray.size_extract, ByteArray.size_append, Nat.sub_zero]; omega) | (simp only [← hji10] <;> (first | rfl | simp)) | (simp [*]; done)), QS, H', ⟨by have := HJ3.out; have := HK2.out; omega⟩, DW⟩
      rw [if_neg c12] at H
      exact absurd H (by simp)
     rw [if_neg c11] at H
     exact absurd H (by simp)

theorem ref01_Get_l (s : ByteArray) (a1 a2 : Int) (hs : s.size ≤ 281474976710656) (h2 : a2 ≤ 4) (h3 : 0 ≤ a1) (h4 : a1 + a2 ≤ s.size) :
  ∀ (d k : Nat) (i : Int), a2 - i = d → 0 ≤ i → d < k → weighbridgeref01_Get_p.l0 k s a1 a2 (beNum (((bl s).drop a1.toNat).take i.toNat)) i = some (beNum (((bl s).drop a1.toNat).take a2.toNat), true) := by
 intro d
 induction d with
 | zero =>
  intro k i hd h0 hk
  obtain ⟨k, rfl⟩ : ∃ m, k = m + 1 := ⟨k - 1, by omega⟩
  obtain rfl : i = a2 := by omega
  simp only [weighbridgeref01_Get_p.l0]
  rw [if_neg (by omega)]
 | succ d ih =>
  intro k i hd h0 hk
  obtain ⟨k, rfl⟩ : ∃ m, k = m + 1 := ⟨k - 1, by omega⟩
  have hi : a1.toNat + i.toNat < (bl s).length := by simp; omega
  have hn := ih k (i + 1) (by omega) (by omega) (by omega)
  rw [show (i + 1).toNat = i.toNat + 1 by omega, Sp.take_drop_one _ _ _ hi, Sp.beNum_snoc] at hn
  have hb := Sp.beNum_small (((bl s).drop a1.toNat).take i.toNat) (by rw [List.length_take]; omega)
  simp only [weighbridgeref01_Get_p.l0]
  rw [if_pos (by omega), ref01_wrap (n := a1 + i) (by omega) (by omega), if_pos (by omega), if_pos (by omega), bt_bl _ _ (by omega)]
  simp only [show (a1 + i).toNat = a1.toNat + i.toNat by omega]
  have hx := ((bl s)[a1.toNat + i.toNat]'hi).toNat_lt
  rw [ref01_wrap (n := i + 1) (by omega) (by omega), ref01_wrap (n := beNum _ * 256) (by omega) (by omega), ref01_wrap (n := ((UInt8.toNat _ : Nat) : Int)) (by omega) (by omega), ref01_wrap (by omega) (by omega)]
  exact hn
def weighbridgeref01_Get.f (a0 : ByteArray) (a1 a2 : Int) : Option (Int × Bool) := if a0.size ≤ big01 then some (Sp.get (bl a0) a1 a2) else none
theorem weighbridgeref01_Get_ev (a0 : ByteArray) (a1 a2 : Int) (hs : a0.size ≤ 281474976710656) : ∃ k, weighbridgeref01_Get_p.f k a0 a1 a2 = some (Sp.get (bl a0) a1 a2) := by
 refine ⟨7, ?_⟩
 unfold weighbridgeref01_Get_p.f Sp.get Sp.has
 simp only [bl_length]
 by_cases h1 : a2 < 1
 ·rw [if_pos h1, if_neg (by simp; omega)]; rfl
 by_cases h2 : a2 > 4
 ·rw [if_neg h1, if_pos h2, if_neg (by simp; omega)]; rfl
 by_cases h3 : a1 < 0
 ·rw [if_neg h1, if_neg h2, if_pos h3, if_neg (by simp; omega)]; rfl
 rw [if_neg h1, if_neg h2, if_neg h3, ref01_wrap (by omega) (by omega)]
 by_cases h4 : a1 > (a0.size : Int) - a2
 ·rw [decide_eq_true h4, if_neg (by simp; omega)]; rfl
 rw [decide_eq_false h4, if_pos (by simp; omega)]
 simp only [weighbridgeref01_Get_p.j0]
 rw [if_neg (by decide)]
 have := ref01_Get_l a0 a1 a2 hs (by omega) (by omega) (by omega) a2.toNat 6 0 (by omega) (by omega) (by omega)
 exact this
theorem weighbridgeref01_Get.calls (a0 : ByteArray) (a1 : Int) (a2 : Int) (r1 : Int) (r2 : Bool) (w : World) (h : weighbridgeref01_Get.f a0 a1 a2 = some (r1, r2)) :
  Calls Tryz.prog 29 #[.string a0, .int .i64 a1, .int .i64 a2] w fun e w' => e = .returned (.tuple #[.int .i64 r1, .bool r2]) ∧ Drawn0 w w' := by
 unfold weighbridgeref01_Get.f at h
 split at h
 case isFalse => cases h
 case isTrue hs =>
  obtain ⟨k, hk⟩ := weighbridgeref01_Get_ev a0 a1 a2 hs
  rw [Option.some.inj h] at hk
  exact weighbridgeref01_Get_p.calls k a0 a1 a2 r1 r2 w hk
theorem weighbridgeref01_Get_eq (a0 : ByteArray) (a1 a2 : Int) (hs : a0.size ≤ 281474976710656) : weighbridgeref01_Get.f a0 a1 a2 = some (Sp.get (bl a0) a1 a2) := by
 unfold weighbridgeref01_Get.f; exact if_pos hs
/-! ### weighbridgeref01_Set_p: function 45 -/
def weighbridgeref01_Set_p.f (a0 : ByteArray) (a1 : Int) (a2 : Int) (a3 : Int) : Option (ByteArray × Bool) := (weighbridgeref01_Get.f a0 a1 a2).bind fun bt155 => ((weighbridgeref01_Put.f a2 a3).bind fun bt157 => (if bt155.2 = true then (if bt157.2 = true then (if 0 ≤ a1 then (if a1 ≤ (a0.size : Int) then (if (a0.extract 0 (a1 : Int).toNat).size + bt157.1.size ≤ 9223372036854775807 then (if 0 ≤ (wrap64 (a1 + a2)) then (if (wrap64 (a1 + a2)) ≤ (a0.size : Int) then (if ((a0.extract 0 (a1 : Int).toNat) ++ bt157.1).size + (a0.extract ((wrap64 (a1 + a2)) : Int).toNat a0.size).size ≤ 9223372036854775807 then (some (((a0.extract 0 (a1 : Int).toNat) ++ bt157.1) ++ (a0.extract ((wrap64 (a1 + a2)) : Int).toNat a0.size), true)) else (none)) else (none)) else (none)) else (none)) else (none)) else (none)) else (some ((⟨#[]⟩ : ByteArray), false))) else (some ((⟨#[]⟩ : ByteArray), false))))
set_option maxHeartbeats 8000000 in
set_option maxRecDepth 100000 in
theorem weighbridgeref01_Set_p.calls (a0 : ByteArray) (a1 : Int) (a2 : Int) (a3 : Int) (r1 : ByteArray) (r2 : Bool) (w : World) (h : weighbridgeref01_Set_p.f a0 a1 a2 a3 = some (r1, r2)) :
  Calls Tryz.prog 45 #[.string a0, .int .i64 a1, .int .i64 a2, .int .i64 a3] w fun e w' => e = .returned (.tuple #[.string r1, .bool r2]) ∧ Below w.heap.size w w' := by
 have HB := AA (Below.refl w.heap.size w)
 have H := h
 unfold weighbridgeref01_Set_p.f at H
 clear h
 replace H := OB H
 obtain ⟨⟨t155, t156⟩, A5, H⟩ := H
 (try set_option simprocs false in dsimp only at H)
 replace H := OB H
 obtain ⟨⟨t157, t158⟩, A6, H⟩ := H
 (try set_option simprocs false in dsimp only at H)
 go_enter Tryz.func45, Tryz.ntmps45
 go_upto_region 3 with (first | (go_at_call 29; (with_reducible refine (weighbridgeref01_Get.calls a0 a1 a2 t155 _ _ A5.out).mono ?_); rintro e w' ⟨rfl, ⟨nd, rfl⟩⟩; (try exact DD)) | (go_at_call 52; (with_reducible refine (weighbridgeref01_Put.calls a2 a3 t157 _ _ A6.out).mono ?_); rintro e w16 ⟨rfl, hb⟩; (try clear A6); replace HB := BS HB hb; (try clear hb)))
 by_cases c7 : t156 = true
 rotate_left
 ·replace c7 := Bool.eq_false_iff.mpr c7
  subst c7
  replace H := IFN H
  simp only [Option.some.injEq, Prod.mk.injEq] at H
  obtain ⟨rfl, rfl⟩ := H
  go_wp2_with (fail)
  repeat (go_quiet (first | (go_at_call 29; (with_reducible refine (weighbridgeref01_Get.calls a0 a1 a2 t155 false _ A5.out).mono ?_); rintro e w' ⟨rfl, ⟨nd, rfl⟩⟩; (try exact DD)) | (go_at_call 52; (with_reducible refine (weighbridgeref01_Put.calls a2 a3 t157 t158 _ A6.out).mono ?_); rintro e w16 ⟨rfl, hb⟩; (try clear A6); replace HB := BS HB hb; (try clear hb))); try go_wp2_with (first | (go_at_call 29; (with_reducible refine (weighbridgeref01_Get.calls a0 a1 a2 t155 false _ A5.out).mono ?_); rintro e w' ⟨rfl, ⟨nd, rfl⟩⟩; (try exact DD)) | (go_at_call 52; (with_reducible refine (weighbridgeref01_Put.calls a2 a3 t157 t158 _ A6.out).mono ?_); rintro e w16 ⟨rfl, hb⟩; (try clear A6); replace HB := BS HB hb; (try clear hb))))
  go_ret2
  exact ⟨RT, BW HB⟩
 subst c7
 first | rw [if_pos rfl] at H | rw [if_pos trivial] at H
 by_cases c8 : t158 = true
 rotate_left
 ·replace c8 := Bool.eq_false_iff.mpr c8
  subst c8
  replace H := IFN H
  simp only [Option.some.injEq, Prod.mk.injEq] at H
  obtain ⟨rfl, rfl⟩ := H
  go_wp2_with (fail)
  repeat (go_quiet (first | (go_at_call 29; (with_reducible refine (weighbridgeref01_Get.calls a0 a1 a2 t155 true _ A5.out).mono ?_); rintro e w' ⟨rfl, ⟨nd, rfl⟩⟩; (try exact DD)) | (go_at_call 52; (with_reducible refine (weighbridgeref01_Put.calls a2 a3 t157 false _ A6.out).mono ?_); rintro e w16 ⟨rfl, hb⟩; (try clear A6); replace HB := BS HB hb; (try clear hb))); try go_wp2_with (first | (go_at_call 29; (with_reducible refine (weighbridgeref01_Get.calls a0 a1 a2 t155 true _ A5.out).mono ?_); rintro e w' ⟨rfl, ⟨nd, rfl⟩⟩; (try exact DD)) | (go_at_call 52; (with_reducible refine (weighbridgeref01_Put.calls a2 a3 t157 false _ A6.out).mono ?_); rintro e w16 ⟨rfl, hb⟩; (try clear A6); replace HB := BS HB hb; (try clear hb))))
  go_ret2
  exact ⟨RT, BW HB⟩
 subst c8
 first | rw [if_pos rfl] at H | rw [if_pos trivial] at H
 replace H := IU H
 obtain ⟨c9b0, c9b1, H⟩ := H
 replace H := IU H
 obtain ⟨c10b0, c10b1, H⟩ := H
 replace H := IT H
 obtain ⟨c11, H⟩ := H
 have c11b0 := eq_true c11
 have c11b1 := decide_eq_true c11
 try have c11b2 := eq_false (Nat.not_lt.2 c11)
 (try (have c11r := c11; simp only [ByteArray.size_append, ByteArray.size_extract, Nat.sub_zero, Nat.min_self] at c11r; have c11rt := eq_true c11r; have c11ru := eq_false (Nat.not_lt.mpr c11r); clear c11r))
 (try (have c11s := c11; simp [c9b0, c10b0] at c11s; have c11t := eq_true c11s; have c11u := eq_false (Nat.not_lt.mpr c11s); clear c11s))
 obtain ⟨ji12, hji12⟩ : ∃ j_ : Int, (wrap64 (a1 + a2)) = j_ := ⟨_, rfl⟩
 replace H : (if 0 ≤ (ji12) then (if (ji12) ≤ (a0.size : Int) then (if ((a0.extract 0 (a1 : Int).toNat) ++ t157).size + (a0.extract ((ji12) : Int).toNat a0.size).size ≤ 9223372036854775807 then (some (((a0.extract 0 (a1 : Int).toNat) ++ t157) ++ (a0.extract ((ji12) : Int).toNat a0.size), true)) else (none)) else (none)) else (none)) = some (r1, r2) := by first | (rw [hji12] at H; exact H) | (simp only [hji12] at H ⊢; exact H)
 (try rw [hji12] at A5)
 (try rw [hji12] at A6)
 have hji12w : (IntKind.i64.wrap (a1 + a2)) = ji12 := (i64_w _).trans hji12
 replace H := IU H
 obtain ⟨c13b0, c13b1, H⟩ := H
 by_cases c14 : (ji12) ≤ (a0.size : Int)
 ·rw [if_pos c14] at H
  have c14b0 := eq_true c14
  have c14b1 := decide_eq_true c14
  clear c14
  by_cases c15 : ((a0.extract 0 (a1 : Int).toNat) ++ t157).size + (a0.extract ((ji12) : Int).toNat a0.size).size ≤ 9223372036854775807
  ·rw [if_pos c15] at H
   have c15b0 := eq_true c15
   have c15b1 := decide_eq_true c15
   try have c15b2 := eq_false (Nat.not_lt.2 c15)
   (try (have c15r := c15; simp only [ByteArray.size_append, ByteArray.size_extract, Nat.sub_zero, Nat.min_self] at c15r; have c15rt := eq_true c15r; have c15ru := eq_false (Nat.not_lt.mpr c15r); clear c15r))
   (try (have c15s := c15; simp [c9b0, c10b0, c11b0, c13b0, c14b0] at c15s; have c15t := eq_true c15s; have c15u := eq_false (Nat.not_lt.mpr c15s); clear c15s))
   simp only [Option.some.injEq, Prod.mk.injEq] at H
   obtain ⟨rfl, rfl⟩ := H
   go_wp2_with (fail)
   repeat (go_quiet (first | (go_at_call 29; (with_reducible refine (weighbridgeref01_Get.calls a0 a1 a2 t155 true _ A5.out).mono ?_); rintro e w' ⟨rfl, ⟨nd, rfl⟩⟩; (try exact DD)) | (go_at_call 52; (with_reducible refine (weighbridgeref01_Put.calls a2 a3 t157 true _ A6.out).mono ?_); rintro e w16 ⟨rfl, hb⟩; (try clear A6); replace HB := BS HB hb; (try clear hb))); try go_wp2_with (first | (go_at_call 29; (with_reducible refine (weighbridgeref01_Get.calls a0 a1 a2 t155 true _ A5.out).mono ?_); rintro e w' ⟨rfl, ⟨nd, rfl⟩⟩; (try exact DD)) | (go_at_call 52; (with_reducible refine (weighbridgeref01_Put.calls a2 a3 t157 true _ A6.out).mono ?_); rintro e w16 ⟨rfl, hb⟩; (try clear A6); replace HB := BS HB hb; (try clear hb))))
   go_ret2
   exact ⟨by first | rfl | (simp [errW_none, errW_some] <;> rfl) | (simp only [← hji12]; first | rfl | (simp [errW_none, errW_some] <;> rfl)) | (simp [*, errW_none, errW_some] <;> rfl), BW HB⟩
  rw [if_neg c15] at H
  exact absurd H (by simp)
 rw [if_neg c14] at H
 exact absurd H (by simp)

theorem ref01_Set_ev (a0 : ByteArray) (a1 a2 a3 : Int) (hs : a0.size ≤ 281474976710656) (h0 : -9223372036854775808 ≤ a3) (h1 : a3 ≤ 9223372036854775807) : weighbridgeref01_Set_p.f a0 a1 a2 a3 = some (lb (Sp.set (bl a0) a1 a2 a3).1, (Sp.set (bl a0) a1 a2 a3).2) := by
 unfold weighbridgeref01_Set_p.f
 rw [weighbridgeref01_Get_eq _ _ _ hs, weighbridgeref01_Put_eq _ _ h0 h1]
 simp only [Option.bind_some]
 rw [get_snd, put_snd]
 by_cases hh : Sp.has (bl a0) a1 a2 = true
 ·by_cases hf : Sp.fits a2 a3 = true
  ·have h := Sp.has_iff.1 hh
   rw [bl_length] at h
   rw [if_pos hh, if_pos hf, Sp.put_yes hf]
   simp only []
   rw [if_pos (by omega), if_pos (by omega), if_pos (by rw [ByteArray.size_extract, lb_size, Sp.beBytes_length]; omega), ref01_wrap (by omega) (by omega), if_pos (by omega), if_pos (by omega),
    if_pos (by rw [ByteArray.size_append, ByteArray.size_extract, ByteArray.size_extract, lb_size, Sp.beBytes_length]; omega), set_yes hf hh]
   congr 2
   apply Sp.bl_inj
   simp only [bl_append, bl_lb, Sp.bl_extract, List.drop_zero]
   rw [List.take_of_length_le (l := bl a0) (i := a0.size) (by simp)]
  rw [if_pos hh, if_neg hf, set_no (fun h => hf h.1)]; rfl
 rw [if_neg hh, set_no (fun h => hh h.2)]; rfl
def weighbridgeref01_Set.f (a0 : ByteArray) (a1 a2 a3 : Int) : Option (ByteArray × Bool) := if a0.size ≤ big01 ∧ -9223372036854775808 ≤ a3 ∧ a3 ≤ 9223372036854775807 then some (lb (Sp.set (bl a0) a1 a2 a3).1, (Sp.set (bl a0) a1 a2 a3).2) else none
theorem weighbridgeref01_Set_eq (a0 : ByteArray) (a1 a2 a3 : Int) (hs : a0.size ≤ 281474976710656) (h0 : -9223372036854775808 ≤ a3) (h1 : a3 ≤ 9223372036854775807) : weighbridgeref01_Set.f a0 a1 a2 a3 = some (lb (Sp.set (bl a0) a1 a2 a3).1, (Sp.set (bl a0) a1 a2 a3).2) := by
 unfold weighbridgeref01_Set.f; exact if_pos ⟨hs, h0, h1⟩
theorem weighbridgeref01_Set.calls (a0 : ByteArray) (a1 : Int) (a2 : Int) (a3 : Int) (r1 : ByteArray) (r2 : Bool) (w : World) (h : weighbridgeref01_Set.f a0 a1 a2 a3 = some (r1, r2)) :
  Calls Tryz.prog 45 #[.string a0, .int .i64 a1, .int .i64 a2, .int .i64 a3] w fun e w' => e = .returned (.tuple #[.string r1, .bool r2]) ∧ Below w.heap.size w w' := by
 unfold weighbridgeref01_Set.f at h
 split at h
 case isFalse => cases h
 case isTrue hs => exact weighbridgeref01_Set_p.calls a0 a1 a2 a3 r1 r2 w ((ref01_Set_ev a0 a1 a2 a3 hs.1 hs.2.1 hs.2.2).trans h)
end Go.Proofs.YtfnjohklmpiboaaGreat.Pr
