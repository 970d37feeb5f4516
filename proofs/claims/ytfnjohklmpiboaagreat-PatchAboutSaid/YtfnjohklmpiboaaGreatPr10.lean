-- Written by a program of the session (wip/tools) out of the translation, over the kit's print; with pieces of the session's own.
import Derived.Test.YtfnjohklmpiboaaGreatPr0
namespace Go.Proofs.YtfnjohklmpiboaaGreat.Pr
open Go.RowKit Go.Proofs.YtfnjohklmpiboaaGreatW.PrintWords Go.Proofs.YtfnjohklmpiboaaGreatW.PrintLast Go.Proofs.YtfnjohklmpiboaaGreatW.PrintMore
attribute [local go_sem] max2_int min2_int max_two min_two max_three min_three max_four min_four   -- for this text's walks alone
set_option linter.unusedVariables false
set_option linter.unusedSimpArgs false
open Go.Proofs.YtfnjohklmpiboaaGreat.Sp
/-! ### octet_Put_p: function 39 -/
mutual
def octet_Put_p.j0 : Nat → Int → Int → Bool → Option (ByteArray × Bool)
 | 0, _, _, _ => none
 | k + 1, x0, x1, x24 => if x24 = true then (some ((⟨#[]⟩ : ByteArray), false)) else (if 0 ≤ x0 then (if (x0 : Int).toNat ≤ 281474976710656 then ((some (List.replicate (x0 : Int).toNat 0 : List Int)).bind fun y218 => (octet_Put_p.l0 k x0 x1 y218 (y218.length : Int) 0)) else (none)) else (none))
def octet_Put_p.l0 : Nat → Int → Int → List Int → Int → Int → Option (ByteArray × Bool)
 | 0, _, _, _, _, _ => none
 | k + 1, x0, x1, x6, x28, x29 => if x29 < x28 then (if 0 ≤ (wrap64 (8 * (wrap64 ((wrap64 (x0 - 1)) - x29)))) then (if 0 ≤ x29 then (if x29 < (x6.length : Int) then (octet_Put_p.l0 k x0 x1 (x6.set (x29 : Int).toNat ((shr .i64 x1 (wrap64 (8 * (wrap64 ((wrap64 (x0 - 1)) - x29))))) % 256)) x28 (wrap64 (x29 + 1))) else (none)) else (none)) else (none)) else (some (strOfNums x6, true))
end
def octet_Put_p.f (k : Nat) (a0 : Int) (a1 : Int) : Option (ByteArray × Bool) := if a0 < 1 then (octet_Put_p.j0 k a0 a1 true) else (if a0 > 4 then (octet_Put_p.j0 k a0 a1 true) else (if a1 < 0 then (octet_Put_p.j0 k a0 a1 true) else (if 0 ≤ (wrap64 (8 * a0)) then (octet_Put_p.j0 k a0 a1 ((shr .i64 a1 (wrap64 (8 * a0))) != 0)) else (none))))
theorem octet_Put_p.mono_l : ∀ k, (∀ y0 y1 y2, LeO (octet_Put_p.j0 k y0 y1 y2) (octet_Put_p.j0 (k + 1) y0 y1 y2)) ∧ (∀ y0 y1 y2 y3 y4, LeO (octet_Put_p.l0 k y0 y1 y2 y3 y4) (octet_Put_p.l0 (k + 1) y0 y1 y2 y3 y4))
 | 0 => ⟨fun _ _ _ r h => by simp [octet_Put_p.j0] at h, fun _ _ _ _ _ r h => by simp [octet_Put_p.l0] at h⟩
 | k + 1 => by
  obtain ⟨ih0, ih1⟩ := octet_Put_p.mono_l k
  refine ⟨?_, ?_⟩
  ·intro y0 y1 y2
   unfold octet_Put_p.j0
   repeat' first
   | (with_reducible exact ih0 _ _ _)
   | (with_reducible exact ih1 _ _ _ _ _)
   | (with_reducible exact LeO.refl _)
   | (with_reducible exact LeO.none _)
   | (with_reducible refine LeO.ite ?_ ?_)
   | (with_reducible refine LeO.bind ?_ (fun _ => ?_))
   | exact ih0 _ _ _
   | exact ih1 _ _ _ _ _
   | exact LeO.none _
   | refine LeO.ite ?_ ?_
   | refine LeO.bind ?_ (fun _ => ?_)
  ·intro y0 y1 y2 y3 y4
   unfold octet_Put_p.l0
   repeat' first
   | (with_reducible exact ih0 _ _ _)
   | (with_reducible exact ih1 _ _ _ _ _)
   | (with_reducible exact LeO.refl _)
   | (with_reducible exact LeO.none _)
   | (with_reducible refine LeO.ite ?_ ?_)
   | (with_reducible refine LeO.bind ?_ (fun _ => ?_))
   | exact ih0 _ _ _
   | exact ih1 _ _ _ _ _
   | exact LeO.none _
   | refine LeO.ite ?_ ?_
   | refine LeO.bind ?_ (fun _ => ?_)
theorem octet_Put_p.mono : ∀ a0 a1 k, LeO (octet_Put_p.f k a0 a1) (octet_Put_p.f (k + 1) a0 a1) := by
 intro a0 a1 k
 obtain ⟨ih0, ih1⟩ := octet_Put_p.mono_l k
 unfold octet_Put_p.f
 repeat' first
   | (with_reducible exact ih0 _ _ _)
   | (with_reducible exact ih1 _ _ _ _ _)
   | (with_reducible exact LeO.refl _)
   | (with_reducible exact LeO.none _)
   | (with_reducible refine LeO.ite ?_ ?_)
   | (with_reducible refine LeO.bind ?_ (fun _ => ?_))
   | exact ih0 _ _ _
   | exact ih1 _ _ _ _ _
   | exact LeO.none _
   | refine LeO.ite ?_ ?_
   | refine LeO.bind ?_ (fun _ => ?_)
set_option maxHeartbeats 8000000 in
set_option maxRecDepth 100000 in
theorem octet_Put_p.calls (k : Nat) (a0 : Int) (a1 : Int) (r1 : ByteArray) (r2 : Bool) (w : World) (h : octet_Put_p.f k a0 a1 = some (r1, r2)) :
  Calls Tryz.prog 39 #[.int .i64 a0, .int .i64 a1] w fun e w' => e = .returned (.tuple #[.string r1, .bool r2]) ∧ Below w.heap.size w w' := by
 have HB := AA (Below.refl w.heap.size w)
 have H := h
 unfold octet_Put_p.f at H
 clear h
 have HC3 := AA H
 clear H
 go_enter Tryz.func39, Tryz.ntmps39
 go_upto_region 1 with (fail)
 go_cut [24] (fun v24 wc => ∃ (kq : Nat) (x24_2 : Bool), v24 = .bool x24_2 ∧ Aside0 (octet_Put_p.j0 kq a0 a1 x24_2 = some (r1, r2)) ∧ Aside0 (kq ≤ k) ∧ Aside0 (Below w.heap.size w wc))
 case first =>
  have H := HC3.out
  clear HC3
  by_cases c4 : a0 < 1
  ·rw [if_pos c4] at H
   have c4b0 := decide_eq_true c4
   clear c4
   (first | rw [c4b0] | (simp only [i64_w, i32_w]; rw [c4b0]) | skip)
   have H' := AA H
   clear H
   go_wp2
   go_meet
   case rel => exact ⟨_, (true), QS, H', LR, ⟨BW HB⟩⟩
  rw [if_neg c4] at H
  have c4b0 := decide_eq_false c4
  clear c4
  (first | rw [c4b0] | (simp only [i64_w, i32_w]; rw [c4b0]) | skip)
  by_cases c5 : a0 > 4
  ·rw [if_pos c5] at H
   have c5b0 : decide (4 < a0) = true := decide_eq_true c5
   clear c5
   have H' := AA H
   clear H
   go_wp2
   go_meet
   case rel => exact ⟨_, (true), QS, H', LR, ⟨BW HB⟩⟩
  rw [if_neg c5] at H
  have c5b0 : decide (4 < a0) = false := decide_eq_false c5
  clear c5
  by_cases c6 : a1 < 0
  ·rw [if_pos c6] at H
   have c6b0 := decide_eq_true c6
   clear c6
   have H' := AA H
   clear H
   go_wp2
   go_meet
   case rel => exact ⟨_, (true), QS, H', LR, ⟨BW HB⟩⟩
  rw [if_neg c6] at H
  have c6b0 := decide_eq_false c6
  clear c6
  obtain ⟨ji7, hji7⟩ : ∃ j_ : Int, (wrap64 (8 * a0)) = j_ := ⟨_, rfl⟩
  replace H : (if 0 ≤ (ji7) then (octet_Put_p.j0 k a0 a1 ((shr .i64 a1 (ji7)) != 0)) else (none)) = some (r1, r2) := by first | (rw [hji7] at H; exact H) | (simp only [hji7] at H ⊢; exact H)
  have hji7w : (IntKind.i64.wrap (8 * a0)) = ji7 := (i64_w _).trans hji7
  by_cases c8 : 0 ≤ (ji7)
  ·rw [if_pos c8] at H
   have c8b0 := eq_true c8
   have c8b1 := decide_eq_true c8
   clear c8
   obtain ⟨ji9, hji9⟩ : ∃ j_ : Int, (shr .i64 a1 (ji7)) = j_ := ⟨_, rfl⟩
   replace H : (octet_Put_p.j0 k a0 a1 ((ji9) != 0)) = some (r1, r2) := by first | (rw [hji9] at H; exact H) | (simp only [hji9] at H ⊢; exact H)
   have hji9_ : (a1 / 2 ^ min (ji7).toNat 64) = ji9 := hji9
   have hji9z : (ji7) ≤ 64 → (a1 / 2 ^ (ji7).toNat) = ji9 := shr_small hji9
   have H' := AA H
   clear H
   go_wp2
   go_meet
   case rel => exact ⟨_, (((ji9) != 0)), (by first | rfl | (simp; done) | (congr 2; simp only [ByteArray.size_extract, ByteArray.size_append]; (try have := of_eq_true c8b0); (try unfold wrap64); omega) | (simp only [ByteArray.size_extract, ByteArray.size_append, Nat.sub_zero]; done) | (congr 1; simp only [ByteArray.size_extract, ByteArray.size_append, Nat.sub_zero]; (try have := of_eq_true c8b0); omega) | (simp only [← hji9] <;> (first | rfl | simp)) | (simp [*]; done)), H', LR, ⟨BW HB⟩⟩
  rw [if_neg c8] at H
  exact absurd H (by simp)
 case rest =>
  clear HC3
  try clear p2; try clear c3; try clear c4; try clear c4b0; try clear c5; try clear c5b0; try clear c6; try clear c6b0; try clear p6; try clear c8; try clear c8b0; try clear c8b1
  obtain ⟨kq, x24_2, rfl, HA, HJ2, HB⟩ := hcut
  cases kq with
  | zero => exact absurd HA.out (by simp [octet_Put_p.j0])
  | succ kj2 =>
   have H := HA.out
   clear HA
   simp only [octet_Put_p.j0] at H
   by_cases c10 : x24_2 = true
   ·subst c10
    first | rw [if_pos rfl] at H | rw [if_pos trivial] at H
    simp only [Option.some.injEq, Prod.mk.injEq] at H
    obtain ⟨rfl, rfl⟩ := H
    go_wp2
    go_ret2
    exact ⟨RT, BW HB⟩
   replace c10 := Bool.eq_false_iff.mpr c10
   subst c10
   replace H := IFN H
   replace H := IU H
   obtain ⟨c11b0, c11b1, H⟩ := H
   replace H := IU H
   obtain ⟨c12b0, c12b1, H⟩ := H
   obtain ⟨y218, hy218⟩ : ∃ y_ : List Int, y_ = (List.replicate (a0 : Int).toNat 0) := ⟨_, rfl⟩
   replace H : (octet_Put_p.l0 kj2 a0 a1 y218 (y218.length : Int) 0) = some (r1, r2) := by first | (rw [hy218]; with_reducible exact H) | (have H2_ := (Option.bind_some _ _).symm.trans H; rw [hy218]; with_reducible exact H2_) | (have H2_ := (Option.bind_some _ _).symm.trans H; with_reducible exact H2_) | with_reducible exact H | (rw [hy218]; exact H) | exact H
   have Ny218 := AA hy218
   clear hy218
   have H' := AA H
   clear H
   go_wp2_with (first | ((with_reducible refine gate_dst (N := 26) rfl ?_); refine Kd.R_make (Kd.int .u8) _ 5 rfl (N := 26) rfl 40 _ _ rfl a0 rfl rfl Tryz.underlying40 (.int .u8 0) 1 info5 rfl (by decide) (by omega) 0 (ok := fun _ => True) (okp := fun _ => True) rfl (fun _ hk => hk) trivial (DA) (Nat.le_trans (Nat.mul_le_mul_right _ (DA : a0.toNat ≤ 281474976710656)) (by omega)) (Below.refl _ _) (Nat.le_refl _) ?_; intro v219 w13 ho14 hb hg_ hnew_; clear hg_ hnew_; (first | rw [← Ny218.out] at ho14 | (simp only [Int.reduceToNat] at ho14; rw [← Ny218.out] at ho14)); have HO220 := AA (Kd.R_lower ho14 (below_size (BW HB))); replace HB := BS HB hb; clear hb ho14; obtain ⟨Ao15, co15, eo15⟩ := Kd.R_slice HO220.out; subst eo15))
   go_loopg [29] kj2 (fun kq v29 w' => ∃ (x6_2 : List Int) (x29_2 : Int), v29 = .int .i64 x29_2 ∧ Aside0 (octet_Put_p.l0 kq a0 a1 x6_2 (y218.length : Int) x29_2 = some (r1, r2)) ∧ Aside0 (kq ≤ kj2) ∧ Aside0 (Kd.R (Kd.int .u8) 5 w' w.heap.size (fun _ => True) (.slice Ao15 y218.length co15) x6_2) ∧ Aside0 (Below w.heap.size w w'))
   case atStart => exact ⟨(y218), (0), (RS), H', ⟨Nat.le_refl _⟩, ⟨by (with_reducible repeat (first | apply Kd.R_alloc | apply Kd.R_drewN | apply Kd.R_drew)); exact HO220.out⟩, ⟨BW HB⟩⟩
   case round =>
    clear H'
    try clear c1; try clear p2; try clear c3; try clear c4; try clear c4b0; try clear c5; try clear c5b0; try clear c6; try clear c6b0; try clear p6; try clear c8; try clear c8b0; try clear c8b1; try clear c10; try clear c11; try clear c11b0; try clear c11b1; try clear c12; try clear c12b0; try clear c12b1; try clear p2; try clear p6
    obtain ⟨x6_2, x29_2, rfl, HA, HK2, HO_6, HB⟩ := hrel
    have hl6_2 := (Kd.R_reads' HO_6.out).1
    rw [hl6_2] at HO_6
    (try simp only [hl6_2])
    cases gk with
    | zero => exact absurd HA.out (by simp [octet_Put_p.l0])
    | succ k2 =>
     have H := HA.out
     clear HA
     simp only [octet_Put_p.l0] at H
     by_cases c16 : x29_2 < (y218.length : Int)
     rotate_left
     ·rw [if_neg c16] at H
      have c16b0 := decide_eq_false c16
      (try rw [hl6_2] at c16b0)
      clear c16
      simp only [Option.some.injEq, Prod.mk.injEq] at H
      obtain ⟨rfl, rfl⟩ := H
      have hcv25 := own_string (P := Tryz.prog) Tryz.underlying40 Tryz.underlying5 Tryz.underlying9 (Kd.own_of_R HO_6.out)
      go_wp2
      go_ret2
      exact ⟨RT, BW HB⟩
     rw [if_pos c16] at H
     have c16b0 := decide_eq_true c16
     clear c16
     obtain ⟨ji17, hji17⟩ : ∃ j_ : Int, (wrap64 (8 * (wrap64 ((wrap64 (a0 - 1)) - x29_2)))) = j_ := ⟨_, rfl⟩
     replace H : (if 0 ≤ (ji17) then (if 0 ≤ x29_2 then (if x29_2 < (x6_2.length : Int) then (octet_Put_p.l0 k2 a0 a1 (x6_2.set (x29_2 : Int).toNat ((shr .i64 a1 (ji17)) % 256)) (y218.length : Int) (wrap64 (x29_2 + 1))) else (none)) else (none)) else (none)) = some (r1, r2) := by first | (rw [hji17] at H; exact H) | (simp only [hji17] at H ⊢; exact H)
     have hji17w : (IntKind.i64.wrap (8 * (wrap64 ((wrap64 (a0 - 1)) - x29_2)))) = ji17 := (i64_w _).trans hji17
     replace H := IU H
     obtain ⟨c18b0, c18b1, H⟩ := H
     obtain ⟨ji19, hji19⟩ : ∃ j_ : Int, (shr .i64 a1 (ji17)) = j_ := ⟨_, rfl⟩
     replace H : (if 0 ≤ x29_2 then (if x29_2 < (x6_2.length : Int) then (octet_Put_p.l0 k2 a0 a1 (x6_2.set (x29_2 : Int).toNat ((ji19) % 256)) (y218.length : Int) (wrap64 (x29_2 + 1))) else (none)) else (none)) = some (r1, r2) := by first | (rw [hji19] at H; exact H) | (simp only [hji19] at H ⊢; exact H)
     have hji19_ : (a1 / 2 ^ min (ji17).toNat 64) = ji19 := hji19
     have hji19z : (ji17) ≤ 64 → (a1 / 2 ^ (ji17).toNat) = ji19 := shr_small hji19
     replace H := IT H
     obtain ⟨c20, H⟩ := H
     have c20b0 := decide_eq_true c20
     clear c20
     by_cases c21 : x29_2 < (x6_2.length : Int)
     ·rw [if_pos c21] at H
      have c21b0 := decide_eq_true c21
      clear c21
      obtain ⟨y221, hy221⟩ : ∃ y_ : List Int, y_ = (x6_2.set (x29_2 : Int).toNat ((ji19) % 256)) := ⟨_, rfl⟩
      replace H : (octet_Put_p.l0 k2 a0 a1 y221 (y218.length : Int) (wrap64 (x29_2 + 1))) = some (r1, r2) := by first | (rw [hy221]; with_reducible exact H) | (have H2_ := (Option.bind_some _ _).symm.trans H; rw [hy221]; with_reducible exact H2_) | (have H2_ := (Option.bind_some _ _).symm.trans H; with_reducible exact H2_) | with_reducible exact H | (rw [hy221]; exact H) | exact H
      have Ny221 := AA hy221
      clear hy221
      have H' := AA H
      clear H
      have p22 : 0 ≤ (x29_2 : Int) := DA
      have q22 : (x29_2 : Int) < ((x6_2.length : Int) : Int) := DA
      obtain ⟨go22, co22, eo22, gb22, gl22, cl22, HG22⟩ := Kd.R_form HO_6.out (by omega)
      (first | cases eo22 | (injection eo22 with ea_ en_ ec_; (first | subst ea_ | (injection ea_ with ea_; subst ea_)); subst ec_; clear en_))
      have GB22 := AA gb22
      have GG22 := AA HG22
      clear gb22 gl22 HG22
      obtain ⟨hx22_0, hf22_0⟩ := Kd.R_celln 0 HO_6.out (x29_2 : Int) p22 q22
      replace p22 := eq_true p22
      replace q22 := eq_true q22
      have HP23 := Kd.R_putg HO_6.out (x29_2 : Int) ((ji19) % 256)
      go_wp2_with (first | ((with_reducible refine gate_store (t := 5) (p := 42) rfl ?_); refine store_event (t := 5) (p := 42) (v := ?vo_w24) (w1 := (wr.setCell ⟨go22, (x29_2 : Int).toNat, none⟩ (.int .u8 ((ji19) % 256)))) ?hg ?ho ?hn ?hr ?_; (case ho => rfl); (case hg => rfl); (case hn => rfl); (case hr => first | (go_simp; done) | (go_simp; rfl)); intro w24 hw; have hg : wr.grownBy w24 (some go22) := (by rw [hw]; exact HP23.2); have hp_ : Kd.R (Kd.int .u8) 5 w24 w.heap.size (fun _ => True) (.slice (some ⟨go22, 0, none⟩) x6_2.length co15) y221 := (by rw [hw, Ny221.out]; exact HP23.1); clear HP23; replace HO_6 := AA hp_; replace HB := AA (by rw [hw]; exact below_set (HB.out) GB22.out : Below w.heap.size w w24); clear hg hw hp_))
      (try simp only [← hl6_2])
      go_roundg k2
      case measure => have := HJ2.out; have := HK2.out; omega
      case rel => exact ⟨(y221), (wrap64 (x29_2 + 1)), (by first | rfl | (simp; done) | (congr 2; simp only [ByteArray.size_extract, ByteArray.size_append]; (try have := of_eq_true c11b0); (try have := of_eq_true c12b0); (try have := of_eq_true c18b0); (try unfold wrap64); omega) | (simp only [ByteArray.size_extract, ByteArray.size_append, Nat.sub_zero]; done) | (congr 1; simp only [ByteArray.size_extract, ByteArray.size_append, Nat.sub_zero]; (try have := of_eq_true c11b0); (try have := of_eq_true c12b0); (try have := of_eq_true c18b0); omega) | (simp [*]; done)), H', ⟨by have := HJ2.out; have := HK2.out; omega⟩, ⟨by (try simp only [hl6_2]); (with_reducible repeat (first | apply Kd.R_alloc | apply Kd.R_drewN | apply Kd.R_drew)); exact HO_6.out⟩, ⟨BW HB⟩⟩
     rw [if_neg c21] at H
     exact absurd H (by simp)

theorem Put_1 (n : Int) : octet_Put_p.j0 7 1 n false = some (strOfNums [shr .i64 n (0 : Nat) % 256], true) := by kernel_rfl
theorem Put_2 (n : Int) : octet_Put_p.j0 7 2 n false = some (strOfNums [shr .i64 n (8 : Nat) % 256, shr .i64 n (0 : Nat) % 256], true) := by kernel_rfl
theorem Put_3 (n : Int) : octet_Put_p.j0 7 3 n false = some (strOfNums [shr .i64 n (16 : Nat) % 256, shr .i64 n (8 : Nat) % 256, shr .i64 n (0 : Nat) % 256], true) := by kernel_rfl
theorem Put_4 (n : Int) : octet_Put_p.j0 7 4 n false = some (strOfNums [shr .i64 n (24 : Nat) % 256, shr .i64 n (16 : Nat) % 256, shr .i64 n (8 : Nat) % 256, shr .i64 n (0 : Nat) % 256], true) := by kernel_rfl
theorem Put_j (sz : Nat) (hz : sz = 1 ∨ sz = 2 ∨ sz = 3 ∨ sz = 4) (n : Int) : octet_Put_p.j0 7 sz n false = some (lb (Sp.beBytes sz n), true) := by
 rcases hz with rfl | rfl | rfl | rfl
 ·refine (Put_1 n).trans ?_
  rw [shr_nat _ (by decide)]
  simp [strOfNums, lb, Sp.beBytes]
 ·refine (Put_2 n).trans ?_
  rw [shr_nat _ (by decide), shr_nat _ (by decide)]
  simp [strOfNums, lb, Sp.beBytes]
 ·refine (Put_3 n).trans ?_
  rw [shr_nat _ (by decide), shr_nat _ (by decide), shr_nat _ (by decide)]
  simp [strOfNums, lb, Sp.beBytes, Int.ediv_ediv]
 refine (Put_4 n).trans ?_
 rw [shr_nat _ (by decide), shr_nat _ (by decide), shr_nat _ (by decide), shr_nat _ (by decide)]
 simp [strOfNums, lb, Sp.beBytes, Int.ediv_ediv]
theorem Put_ev (a0 a1 : Int) : ∃ k, octet_Put_p.f k a0 a1 = some (lb (Sp.put a0 a1).1, (Sp.put a0 a1).2) := by
 refine ⟨7, ?_⟩
 unfold octet_Put_p.f
 by_cases h1 : a0 < 1
 ·rw [if_pos h1, Sp.put_no (by unfold Sp.fits; exact decide_eq_false (by omega))]; rfl
 by_cases h2 : a0 > 4
 ·rw [if_neg h1, if_pos h2, Sp.put_no (by unfold Sp.fits; exact decide_eq_false (by omega))]; rfl
 by_cases h3 : a1 < 0
 ·rw [if_neg h1, if_neg h2, if_pos h3, Sp.put_no (by unfold Sp.fits; exact decide_eq_false (by omega))]; rfl
 rw [if_neg h1, if_neg h2, if_neg h3, wrap_id (by omega) (by omega), if_pos (by omega)]
 obtain ⟨sz, rfl⟩ := Int.eq_ofNat_of_zero_le (show 0 ≤ a0 by omega)
 have hz : sz = 1 ∨ sz = 2 ∨ sz = 3 ∨ sz = 4 := by omega
 have he : shr .i64 a1 (8 * (sz : Int)) = a1 / 256 ^ sz := by
  rw [show 8 * (sz : Int) = ((8 * sz : Nat) : Int) by omega, shr_nat _ (by omega), Int.pow_mul]; rfl
 rw [he]
 have hp : (0 : Int) < 256 ^ sz := Int.pow_pos (by decide)
 by_cases h : a1 < 256 ^ sz
 ·rw [Int.ediv_eq_zero_of_lt (by omega) h, show ((0 : Int) != 0) = false from rfl, Put_j sz hz a1, Sp.put_yes (Sp.fits_iff.2 ⟨by omega, by omega, by omega, by simpa using h⟩)]
  rfl
 have hne : a1 / 256 ^ sz ≠ 0 := fun e => by
  have := Int.lt_ediv_add_one_mul_self a1 hp
  rw [e] at this; omega
 rw [show (a1 / 256 ^ sz != 0) = true from bne_iff_ne.2 hne, Sp.put_no (by unfold Sp.fits; exact decide_eq_false (by rintro ⟨_, _, _, h4⟩; exact h (by simpa using h4)))]
 rfl
def octet_Put.f (a0 a1 : Int) : Option (ByteArray × Bool) := some (lb (Sp.put a0 a1).1, (Sp.put a0 a1).2)
theorem octet_Put.calls (a0 : Int) (a1 : Int) (r1 : ByteArray) (r2 : Bool) (w : World) (h : octet_Put.f a0 a1 = some (r1, r2)) :
  Calls Tryz.prog 39 #[.int .i64 a0, .int .i64 a1] w fun e w' => e = .returned (.tuple #[.string r1, .bool r2]) ∧ Below w.heap.size w w' := by
 obtain ⟨k, hk⟩ := Put_ev a0 a1
 exact octet_Put_p.calls k a0 a1 r1 r2 w (hk.trans h)
/-! ### octet_has: function 61 -/
def octet_has.f (a0 : ByteArray) (a1 : Int) (a2 : Int) : Option (Bool) := if a2 ≥ 1 then (if a2 ≤ 4 then (if a1 ≥ 0 then (if (a0.size : Int) ≥ a2 then (some (decide (a1 ≤ (wrap64 ((a0.size : Int) - a2))))) else (some false)) else (some false)) else (some false)) else (some false)
set_option maxHeartbeats 8000000 in
set_option maxRecDepth 100000 in
theorem octet_has.calls (a0 : ByteArray) (a1 : Int) (a2 : Int) (r : Bool) (w : World) (h : octet_has.f a0 a1 a2 = some r) :
  Calls Tryz.prog 61 #[.string a0, .int .i64 a1, .int .i64 a2] w fun e w' => e = .returned (.bool r) ∧ Drawn0 w w' := by
 have H := h
 unfold octet_has.f at H
 clear h
 by_cases c4 : a2 ≥ 1
 rotate_left
 ·rw [if_neg c4] at H
  have c4b0 : decide (1 ≤ a2) = false := decide_eq_false c4
  clear c4
  obtain rfl := Option.some.inj H
  go_enter Tryz.func61, Tryz.ntmps61
  go_wp2
  go_ret
  exact ⟨RS, DW⟩
 rw [if_pos c4] at H
 have c4b0 : decide (1 ≤ a2) = true := decide_eq_true c4
 clear c4
 by_cases c5 : a2 ≤ 4
 rotate_left
 ·rw [if_neg c5] at H
  have c5b0 := decide_eq_false c5
  clear c5
  obtain rfl := Option.some.inj H
  go_enter Tryz.func61, Tryz.ntmps61
  go_wp2
  go_ret
  exact ⟨RS, DW⟩
 rw [if_pos c5] at H
 have c5b0 := decide_eq_true c5
 clear c5
 by_cases c6 : a1 ≥ 0
 ·rw [if_pos c6] at H
  have c6b0 : decide (0 ≤ a1) = true := decide_eq_true c6
  clear c6
  by_cases c7 : (a0.size : Int) ≥ a2
  ·rw [if_pos c7] at H
   have c7b0 : decide (a2 ≤ (a0.size : Int)) = true := decide_eq_true c7
   clear c7
   obtain rfl := Option.some.inj H
   go_enter Tryz.func61, Tryz.ntmps61
   go_wp2
   go_ret
   exact ⟨RS, DW⟩
  rw [if_neg c7] at H
  have c7b0 : decide (a2 ≤ (a0.size : Int)) = false := decide_eq_false c7
  clear c7
  obtain rfl := Option.some.inj H
  go_enter Tryz.func61, Tryz.ntmps61
  go_wp2
  go_ret
  exact ⟨RS, DW⟩
 rw [if_neg c6] at H
 have c6b0 : decide (0 ≤ a1) = false := decide_eq_false c6
 clear c6
 obtain rfl := Option.some.inj H
 go_enter Tryz.func61, Tryz.ntmps61
 go_wp2
 go_ret
 exact ⟨RS, DW⟩

theorem octet_has_eq (a0 : ByteArray) (a1 a2 : Int) (h : a0.size ≤ big) : octet_has.f a0 a1 a2 = some (Sp.has (bl a0) a1 a2) := by
 unfold big at h
 unfold octet_has.f Sp.has
 simp only [bl_length]
 by_cases h1 : a2 ≥ 1
 ·by_cases h2 : a2 ≤ 4
  ·by_cases h3 : a1 ≥ 0
   ·by_cases h4 : (a0.size : Int) ≥ a2
    ·rw [if_pos h1, if_pos h2, if_pos h3, if_pos h4, wrap_id (by omega) (by omega)]
     congr 1
     exact decide_eq_decide.2 (by omega)
    rw [if_pos h1, if_pos h2, if_pos h3, if_neg h4, decide_eq_false (by omega)]
   rw [if_pos h1, if_pos h2, if_neg h3, decide_eq_false (by omega)]
  rw [if_pos h1, if_neg h2, decide_eq_false (by omega)]
 rw [if_neg h1, decide_eq_false (by omega)]
/-! ### octet_Set_p: function 40 -/
def octet_Set_p.f (a0 : ByteArray) (a1 : Int) (a2 : Int) (a3 : Int) : Option (ByteArray × Bool) := (octet_Put.f a2 a3).bind fun bt222 => (if bt222.2 = true then ((octet_has.f a0 a1 a2).bind fun t224 => (if t224 = true then (if 0 ≤ a1 then (if a1 ≤ (a0.size : Int) then (if (a0.extract 0 (a1 : Int).toNat).size + bt222.1.size ≤ 9223372036854775807 then (if 0 ≤ (wrap64 (a1 + a2)) then (if (wrap64 (a1 + a2)) ≤ (a0.size : Int) then (if ((a0.extract 0 (a1 : Int).toNat) ++ bt222.1).size + (a0.extract ((wrap64 (a1 + a2)) : Int).toNat a0.size).size ≤ 9223372036854775807 then (some (((a0.extract 0 (a1 : Int).toNat) ++ bt222.1) ++ (a0.extract ((wrap64 (a1 + a2)) : Int).toNat a0.size), true)) else (none)) else (none)) else (none)) else (none)) else (none)) else (none)) else (some ((⟨#[]⟩ : ByteArray), false)))) else (some ((⟨#[]⟩ : ByteArray), false)))
set_option maxHeartbeats 8000000 in
set_option maxRecDepth 100000 in
theorem octet_Set_p.calls (a0 : ByteArray) (a1 : Int) (a2 : Int) (a3 : Int) (r1 : ByteArray) (r2 : Bool) (w : World) (h : octet_Set_p.f a0 a1 a2 a3 = some (r1, r2)) :
  Calls Tryz.prog 40 #[.string a0, .int .i64 a1, .int .i64 a2, .int .i64 a3] w fun e w' => e = .returned (.tuple #[.string r1, .bool r2]) ∧ Below w.heap.size w w' := by
 have HB := AA (Below.refl w.heap.size w)
 have H := h
 unfold octet_Set_p.f at H
 clear h
 replace H := OB H
 obtain ⟨⟨t222, t223⟩, A5, H⟩ := H
 (try set_option simprocs false in dsimp only at H)
 go_enter Tryz.func40, Tryz.ntmps40
 go_upto_region 2 with (first | (go_at_call 39; (with_reducible refine (octet_Put.calls a2 a3 t222 _ _ A5.out).mono ?_); rintro e w16 ⟨rfl, hb⟩; (try clear A5); replace HB := BS HB hb; (try clear hb)))
 by_cases c6 : t223 = true
 rotate_left
 ·replace c6 := Bool.eq_false_iff.mpr c6
  subst c6
  replace H := IFN H
  simp only [Option.some.injEq, Prod.mk.injEq] at H
  obtain ⟨rfl, rfl⟩ := H
  go_wp2_with (fail)
  repeat (go_quiet (first | (go_at_call 39; (with_reducible refine (octet_Put.calls a2 a3 t222 false _ A5.out).mono ?_); rintro e w16 ⟨rfl, hb⟩; (try clear A5); replace HB := BS HB hb; (try clear hb))); try go_wp2_with (first | (go_at_call 39; (with_reducible refine (octet_Put.calls a2 a3 t222 false _ A5.out).mono ?_); rintro e w16 ⟨rfl, hb⟩; (try clear A5); replace HB := BS HB hb; (try clear hb))))
  go_ret2
  exact ⟨RT, BW HB⟩
 subst c6
 first | rw [if_pos rfl] at H | rw [if_pos trivial] at H
 replace H := OB H
 obtain ⟨t224, A7, H⟩ := H
 (try set_option simprocs false in dsimp only at H)
 by_cases c8 : t224 = true
 rotate_left
 ·replace c8 := Bool.eq_false_iff.mpr c8
  subst c8
  replace H := IFN H
  simp only [Option.some.injEq, Prod.mk.injEq] at H
  obtain ⟨rfl, rfl⟩ := H
  go_wp2_with (first | (go_at_call 61; (with_reducible refine (octet_has.calls a0 a1 a2 false _ A7.out).mono ?_); rintro e w' ⟨rfl, ⟨nd, rfl⟩⟩; (try exact DD)))
  repeat (go_quiet (first | (go_at_call 39; (with_reducible refine (octet_Put.calls a2 a3 t222 true _ A5.out).mono ?_); rintro e w16 ⟨rfl, hb⟩; (try clear A5); replace HB := BS HB hb; (try clear hb)) | (go_at_call 61; (with_reducible refine (octet_has.calls a0 a1 a2 false _ A7.out).mono ?_); rintro e w' ⟨rfl, ⟨nd, rfl⟩⟩; (try exact DD))); try go_wp2_with (first | (go_at_call 39; (with_reducible refine (octet_Put.calls a2 a3 t222 true _ A5.out).mono ?_); rintro e w16 ⟨rfl, hb⟩; (try clear A5); replace HB := BS HB hb; (try clear hb)) | (go_at_call 61; (with_reducible refine (octet_has.calls a0 a1 a2 false _ A7.out).mono ?_); rintro e w' ⟨rfl, ⟨nd, rfl⟩⟩; (try exact DD))))
  go_ret2
  exact ⟨RT, BW HB⟩
 subst c8
 first | rw [if_pos rfl] at H | rw [if_pos trivial] at H
 replace H := IU H
 obtain ⟨c9b0, c9b1, H⟩ := H
 replace H := IU H
 obtain ⟨c10b0, c10b1, H⟩ := H
 replace H := IT H
 obtain ⟨c11, H⟩ := H
 have c11b0 := eq_true c11
 have c11b1 := decide_eq_true c11
 try have c11b2 := eq_false (Nat.not_lt.2 c11)
 (try (have c11r := c11; simp only [ByteArray.size_append, ByteArray.size_extract, Nat.sub_zero, Nat.min_self] at c11r; have c11rt := eq_true c11r; have c11ru := eq_false (Nat.not_lt.mpr c11r); clear c11r))
 (try (have c11s := c11; simp [c9b0, c10b0] at c11s; have c11t := eq_true c11s; have c11u := eq_false (Nat.not_lt.mpr c11s); clear c11s))
 obtain ⟨ji12, hji12⟩ : ∃ j_ : Int, (wrap64 (a1 + a2)) = j_ := ⟨_, rfl⟩
 replace H : (if 0 ≤ (ji12) then (if (ji12) ≤ (a0.size : Int) then (if ((a0.extract 0 (a1 : Int).toNat) ++ t222).size + (a0.extract ((ji12) : Int).toNat a0.size).size ≤ 9223372036854775807 then (some (((a0.extract 0 (a1 : Int).toNat) ++ t222) ++ (a0.extract ((ji12) : Int).toNat a0.size), true)) else (none)) else (none)) else (none)) = some (r1, r2) := by first | (rw [hji12] at H; exact H) | (simp only [hji12] at H ⊢; exact H)
 (try rw [hji12] at A5)
 (try rw [hji12] at A7)
 have hji12w : (IntKind.i64.wrap (a1 + a2)) = ji12 := (i64_w _).trans hji12
 replace H := IU H
 obtain ⟨c13b0, c13b1, H⟩ := H
 by_cases c14 : (ji12) ≤ (a0.size : Int)
 ·rw [if_pos c14] at H
  have c14b0 := eq_true c14
  have c14b1 := decide_eq_true c14
  clear c14
  by_cases c15 : ((a0.extract 0 (a1 : Int).toNat) ++ t222).size + (a0.extract ((ji12) : Int).toNat a0.size).size ≤ 9223372036854775807
  ·rw [if_pos c15] at H
   have c15b0 := eq_true c15
   have c15b1 := decide_eq_true c15
   try have c15b2 := eq_false (Nat.not_lt.2 c15)
   (try (have c15r := c15; simp only [ByteArray.size_append, ByteArray.size_extract, Nat.sub_zero, Nat.min_self] at c15r; have c15rt := eq_true c15r; have c15ru := eq_false (Nat.not_lt.mpr c15r); clear c15r))
   (try (have c15s := c15; simp [c9b0, c10b0, c11b0, c13b0, c14b0] at c15s; have c15t := eq_true c15s; have c15u := eq_false (Nat.not_lt.mpr c15s); clear c15s))
   simp only [Option.some.injEq, Prod.mk.injEq] at H
   obtain ⟨rfl, rfl⟩ := H
   go_wp2_with (first | (go_at_call 61; (with_reducible refine (octet_has.calls a0 a1 a2 true _ A7.out).mono ?_); rintro e w' ⟨rfl, ⟨nd, rfl⟩⟩; (try exact DD)))
   repeat (go_quiet (first | (go_at_call 39; (with_reducible refine (octet_Put.calls a2 a3 t222 true _ A5.out).mono ?_); rintro e w16 ⟨rfl, hb⟩; (try clear A5); replace HB := BS HB hb; (try clear hb)) | (go_at_call 61; (with_reducible refine (octet_has.calls a0 a1 a2 true _ A7.out).mono ?_); rintro e w' ⟨rfl, ⟨nd, rfl⟩⟩; (try exact DD))); try go_wp2_with (first | (go_at_call 39; (with_reducible refine (octet_Put.calls a2 a3 t222 true _ A5.out).mono ?_); rintro e w16 ⟨rfl, hb⟩; (try clear A5); replace HB := BS HB hb; (try clear hb)) | (go_at_call 61; (with_reducible refine (octet_has.calls a0 a1 a2 true _ A7.out).mono ?_); rintro e w' ⟨rfl, ⟨nd, rfl⟩⟩; (try exact DD))))
   go_ret2
   exact ⟨by first | rfl | (simp [errW_none, errW_some] <;> rfl) | (simp only [← hji12]; first | rfl | (simp [errW_none, errW_some] <;> rfl)) | (simp [*, errW_none, errW_some] <;> rfl), BW HB⟩
  rw [if_neg c15] at H
  exact absurd H (by simp)
 rw [if_neg c14] at H
 exact absurd H (by simp)

theorem Set_ev (a0 : ByteArray) (a1 a2 a3 : Int) (hs : a0.size ≤ 281474976710656) : octet_Set_p.f a0 a1 a2 a3 = some (lb (Sp.set (bl a0) a1 a2 a3).1, (Sp.set (bl a0) a1 a2 a3).2) := by
 unfold octet_Set_p.f octet_Put.f
 simp only [Option.bind_some]
 rw [octet_has_eq a0 a1 a2 hs]
 simp only [Option.bind_some]
 by_cases hf : Sp.fits a2 a3 = true
 ·rw [Sp.put_yes hf]
  simp only [if_true]
  by_cases hh : Sp.has (bl a0) a1 a2 = true
  ·have h := Sp.has_iff.1 hh
   rw [bl_length] at h
   rw [if_pos hh, if_pos (by omega), if_pos (by omega), if_pos (by rw [ByteArray.size_extract, lb_size, Sp.beBytes_length]; omega), wrap_id (by omega) (by omega), if_pos (by omega), if_pos (by omega),
    if_pos (by rw [ByteArray.size_append, ByteArray.size_extract, ByteArray.size_extract, lb_size, Sp.beBytes_length]; omega), set_yes hf hh]
   congr 2
   apply Sp.bl_inj
   simp only [bl_append, bl_lb, Sp.bl_extract, List.drop_zero]
   rw [List.take_of_length_le (l := bl a0) (i := a0.size) (by simp)]
  rw [if_neg hh, set_no (fun h => hh h.2)]; rfl
 rw [Sp.put_no (Sp.bool_no hf), set_no (fun h => hf h.1)]; rfl
def octet_Set.f (a0 : ByteArray) (a1 a2 a3 : Int) : Option (ByteArray × Bool) := if a0.size ≤ big then some (lb (Sp.set (bl a0) a1 a2 a3).1, (Sp.set (bl a0) a1 a2 a3).2) else none
theorem octet_Set_eq (a0 : ByteArray) (a1 a2 a3 : Int) (hs : a0.size ≤ 281474976710656) : octet_Set.f a0 a1 a2 a3 = some (lb (Sp.set (bl a0) a1 a2 a3).1, (Sp.set (bl a0) a1 a2 a3).2) := by
 unfold octet_Set.f; exact if_pos hs
theorem octet_Set.calls (a0 : ByteArray) (a1 : Int) (a2 : Int) (a3 : Int) (r1 : ByteArray) (r2 : Bool) (w : World) (h : octet_Set.f a0 a1 a2 a3 = some (r1, r2)) :
  Calls Tryz.prog 40 #[.string a0, .int .i64 a1, .int .i64 a2, .int .i64 a3] w fun e w' => e = .returned (.tuple #[.string r1, .bool r2]) ∧ Below w.heap.size w w' := by
 unfold octet_Set.f at h
 split at h
 case isFalse => cases h
 case isTrue hs => exact octet_Set_p.calls a0 a1 a2 a3 r1 r2 w ((Set_ev a0 a1 a2 a3 hs).trans h)

/-! ### octet_Get: function 41 -/
section
attribute [local go_sem] Oper.semAt_some
set_option maxHeartbeats 1000000 in
theorem octets_in (F : Fence) (n : Nat) (hf : F.fn 62) (hro : F.round = none) (s : ByteArray) (w : World) :
  CallsIn F n Tryz.prog 62 #[.string s] w fun e w' => e = .returned (.func (.func 93) #[] #[.pointer (some ⟨w.heap.size, 0, none⟩)]) ∧ w' = w.alloc (.cells #[.string s] 9) := by
 refine callsIn_of_wp Tryz.func62 rfl hf ?_ hro
 simp only [Tryz.ntmps62, List.size_toArray, List.length_cons, List.length_nil, Nat.reduceAdd, Nat.reduceSub, Array.replicate_succ, Array.replicate_zero, List.push_toArray, List.append_toArray, List.nil_append, List.cons_append]
 gi_wp2
 go_ret
 exact ⟨rfl, rfl⟩
set_option maxRecDepth 100000 in
set_option maxHeartbeats 2000000 in
theorem octets1_in (F : Fence) (n : Nat) (hf : F.fn 93) (hro : F.round = none) (hn : 1 ≤ n) (l Bs : Nat) (s : ByteArray) (hs : s.size ≤ 9223372036854775807) (J Jx : List UInt8 → World → Prop)
  (hY : ∀ pre x W, J pre W → pre.length < s.size → YieldAt F (n - 1) Tryz.prog l #[.int .i64 (x.toNat : Int)] W fun e W' =>
   (e = .returned (.bool true) ∧ J (pre ++ [x]) W' ∧ KeepsAt Bs (.cells #[.string s] 9 (0, 0)) W W') ∨ (e = .returned (.bool false) ∧ Jx (pre ++ [x]) W'))
  (W : World) (hBs : W.heap[Bs]? = some (.cells #[.string s] 9 (0, 0))) (h0 : J [] W) :
  CallsIn F n Tryz.prog 93 #[.func (.yield l) #[] #[], .pointer (some ⟨Bs, 0, none⟩)] W fun e W' => (∃ v, e = .returned v) ∧
   ((∃ ys, ys = bl s ∧ J ys W') ∨ (∃ pre, pre <+: bl s ∧ Jx pre W')) := by
 have hc0 := str_box hBs
 refine callsIn_of_wp Tryz.func93 rfl hf ?_ hro
 simp only [Tryz.ntmps93, List.size_toArray, List.length_cons, List.length_nil, Nat.reduceAdd, Nat.reduceSub, Array.replicate_succ, Array.replicate_zero, List.push_toArray, List.append_toArray, List.nil_append, List.cons_append]
 gi_wp2
 gi_loopw [6] (fun i wr => ∃ k : Nat, k ≤ s.size ∧ i = .int .i64 k ∧ J ((bl s).take k) wr ∧ wr.heap[Bs]? = some (.cells #[.string s] 9 (0, 0)))
  (fun i _ => s.size - (intOf i).toNat)
 case atStart => exact ⟨0, Nat.zero_le _, rfl, h0, hBs⟩
 case round =>
  obtain ⟨k, hk, rfl, hJs, hbx⟩ := hrel
  have hcx := str_box hbx
  by_cases hlt : k < s.size
  ·obtain ⟨fn, tmps, assign, body, hy, hR⟩ := hY _ s[k] wr hJs (by rw [List.length_take]; simp; omega)
   have HB := Lib.hid hbx
   clear hbx hBs hc0
   have hwr : wrap64 (s[k].toNat : Int) = (s[k].toNat : Int) := by have := s[k].toNat_lt; unfold wrap64; omega
   gi_wp2
   refine hR.mono ?_
   rintro e W3 (⟨rfl, hJ3, hk3⟩ | ⟨rfl, hJx3⟩)
   ·have HB3 := hk3 HB.out
    gi_wp2
    go_roundw
    case rel => exact ⟨k + 1, by omega, by simp, by rw [take_one s k hlt]; exact hJ3, HB3⟩
    case measure => simp [intOf]; omega
   gi_wp2
   refine bodyPost_ret (results_none rfl _ _ _) rfl ?_
   exact ⟨⟨_, rfl⟩, .inr ⟨_, by rw [← take_one s k hlt]; exact List.take_prefix _ _, hJx3⟩⟩
  obtain rfl : k = s.size := by omega
  gi_wp2
  go_end0
  exact ⟨⟨_, rfl⟩, .inl ⟨_, by rw [List.take_of_length_le (by simp)], hJs⟩⟩
theorem octets_stops (F : Fence) (n : Nat) (hf : F.fn 93) (hro : F.round = none) (hn : 1 ≤ n) (Bs : Nat) (s : ByteArray) (hs : s.size ≤ 9223372036854775807) (w : World) (hBs : w.heap[Bs]? = some (.cells #[.string s] 9 (0, 0))) :
  SeqStopsK F n Tryz.prog 93 #[.pointer (some ⟨Bs, 0, none⟩)] (fun x : UInt8 => #[Value.int .i64 (x.toNat : Int)]) (KeepsAt Bs (.cells #[.string s] 9 (0, 0))) (fun ys => ys = bl s) (fun pre => pre <+: bl s) s.size w := fun l J Jx W hW _ _ hY h0 =>
 octets1_in F n hf hro hn l Bs s hs J Jx hY W ((hW.block Bs (Array.getElem?_eq_some_iff.1 hBs).1).trans hBs) h0
end
def octet_Get.f (a0 : ByteArray) (a1 a2 : Int) : Option (Int × Bool) := if a0.size ≤ big then some (Sp.get (bl a0) a1 a2) else none
section
attribute [local go_sem] Oper.semAt_some
theorem Get_no (a0 : ByteArray) (a1 a2 : Int) (w : World) (hq : octet_has.f a0 a1 a2 = some false) :
  Calls Tryz.prog 41 #[.string a0, .int .i64 a1, .int .i64 a2] w fun e w' => e = .returned (.tuple #[.int .i64 0, .bool false]) ∧ Below w.heap.size w w' := by
 have HQ := Lib.hid hq
 clear hq
 go_enter Tryz.func41, Tryz.ntmps41
 go_wp2_with (go_at_call 61; refine (octet_has.calls _ _ _ _ _ HQ.out).mono ?_; rintro e w' ⟨rfl, hD⟩; obtain ⟨nd, rfl⟩ := hD.out)
 go_ret2
 exact ⟨rfl, by repeat (first | exact Below.refl _ _ | apply pw_below_drewN)⟩
set_option maxRecDepth 100000 in
set_option maxHeartbeats 2000000 in
theorem Get_yes (a0 : ByteArray) (a1 a2 : Int) (w : World) (hs : a0.size ≤ big) (h1 : 1 ≤ a2) (h2 : a2 ≤ 4) (h3 : 0 ≤ a1) (h4 : a1 + a2 ≤ a0.size) (hq : octet_has.f a0 a1 a2 = some true) :
  CallsIn Fence.wide 4 Tryz.prog 41 #[.string a0, .int .i64 a1, .int .i64 a2] w fun e w' => e = .returned (.tuple #[.int .i64 (beNum (((bl a0).drop a1.toNat).take a2.toNat)), .bool true]) ∧ Below w.heap.size w w' := by
 unfold big at hs
 have HQ := Lib.hid hq
 clear hq
 have f1 : decide (0 ≤ a1) = true := decide_eq_true h3
 have f2 : decide (a1 ≤ a1 + a2) = true := decide_eq_true (by omega)
 have f3 : decide (a1 + a2 ≤ (a0.size : Int)) = true := decide_eq_true h4
 have g1 := eq_true h3
 have g2 := eq_true (show a1 ≤ a1 + a2 by omega)
 have g3 := eq_true h4
 refine callsIn_of_wp_marks Tryz.func41 rfl trivial ?_ rfl
 simp only [Tryz.ntmps41, List.size_toArray, List.length_cons, List.length_nil, Nat.reduceAdd, Nat.reduceSub, Array.replicate_succ, Array.replicate_zero, List.push_toArray, List.append_toArray, List.nil_append, List.cons_append]
 gi_wp2_with (first
  | (refine ⟨trivial, ?_⟩; gi_at_call 61; refine (callsIn_wide.2 (octet_has.calls _ _ _ _ _ HQ.out)).mono ?_; rintro e w1 ⟨rfl, hD⟩; have HD := Lib.hid hD.below; clear hD)
  | (refine ⟨trivial, ?_⟩; gi_at_call 62; refine (octets_in Fence.wide _ trivial rfl _ _).mono ?_; rintro e w2 ⟨rfl, rfl⟩))
 obtain ⟨sb, hsb⟩ : ∃ sb, sb = a0.extract a1.toNat (a1 + a2).toNat := ⟨_, rfl⟩
 rw [← hsb]
 have hsz : sb.size = a2.toNat := by rw [hsb, ByteArray.size_extract]; omega
 have hbl : bl sb = ((bl a0).drop a1.toNat).take a2.toNat := by rw [hsb, Sp.bl_extract, List.drop_take]; congr 1; omega
 have HS := Lib.hid hsb
 have HZ := Lib.hid hsz
 have HBL := Lib.hid hbl
 clear hsb hsz hbl f1 f2 f3 g1 g2 g3
 have hs := cell_new_l w1 (.int .i64 0) 3
 have hb : ((w1.alloc (.cells #[.int .i64 0] 3)).alloc (.cells #[.string sb] 9)).heap[w1.heap.size + 1]? = some (.cells #[.string sb] 9 (0, 0)) := by
  have := World.alloc_heap_new (w1.alloc (.cells #[.int .i64 0] 3)) (.cells #[.string sb] 9)
  rwa [World.size_alloc] at this
 have hB0 : Below w1.heap.size w1 ((w1.alloc (.cells #[.int .i64 0] 3)).alloc (.cells #[.string sb] 9)) := ((Below.refl _ w1).alloc (Nat.le_refl _) _).alloc (by simp) _
 refine wpIn_rangeFunc_ownF rfl (by decide) (gf := 93) (lb := #[.pointer (some ⟨w1.heap.size + 1, 0, none⟩)]) rfl trivial (enters_of Tryz.func93 (by kernel_rfl) rfl)
  (octets_stops Fence.wide 3 trivial rfl (by decide) (w1.heap.size + 1) sb (by rw [HZ.out]; omega) _ hb) keepsAt_t (keepsAt_b rfl) (Below.refl _ _) (fun _ => rfl)
  (fun pre W => (W.cell? ⟨w1.heap.size, 0, none⟩ = some (.int .i64 (beNum pre)) ∧ W.frozen? ⟨w1.heap.size, 0, none⟩ = false) ∧ Below w1.heap.size w1 W)
  (fun _ _ _ => False)
  (OwnFrom.and (Own.from (fun s A B row hs hg hr => ⟨cell_kept hs.1 hg hr, (frozen_kept hs.1 hg hr).trans hs.2⟩) _) (ownFrom_below (Nat.le_refl _) (by simp; omega)))
  (fun _ _ _ _ _ hs _ _ => hs)
  ⟨⟨cell_alloc_l _ hs.1, frozen_alloc_l _ hs.1 hs.2⟩, hB0⟩
  (fun x => { tmps := #[.string a0, .int .i64 a1, .int .i64 a2, undef, undef, undef, .int .i64 0, .bool false, .pointer (some ⟨w1.heap.size, 0, none⟩), .int .i64 (x.toNat : Int), .string a0, .int .i64 a1, .int .i64 a2, .bool true, .bool false, .string a0, .int .i64 a1, .int .i64 a1, .int .i64 a2, .int .i64 (a1 + a2), .string sb, .func (.func 93) #[] #[.pointer (some ⟨w1.heap.size + 1, 0, none⟩)], .int .i64 (x.toNat : Int), undef, undef, undef, undef, undef], defers := [] }) ?assign ?body ?done ?stop
 case assign =>
  intro l x W K hK
  gi_wp2
  exact hK
 case body =>
  rintro l pre x W ⟨⟨hc, hf⟩, hB⟩ hlen
  have hbd := Sp.beNum_small pre (by have := HZ.out; omega)
  have hx := x.toNat_lt
  have hw : wrap64 (beNum pre * 256) = beNum pre * 256 := wrap_id (by omega) (by omega)
  have hor := bits_byte (x := beNum pre) (y := (x.toNat : Int)) (by omega) (by omega) (by omega) (by omega)
  gi_wp2
  exact ⟨KeepsOthers.setCell _ _ _, keepsAt_set _ (by simp), ⟨by rw [Sp.beNum_snoc]; exact World.cell?_setCell_same' _ _ _ (by rw [hc]; rfl), by rw [World.frozen?_setCell]; exact hf⟩, hB.setCell (p := ⟨w1.heap.size, 0, none⟩) (Nat.le_refl _) _⟩
 case done =>
  rintro D ys W hDD rfl ⟨⟨hc, _⟩, hB⟩ hK
  rw [HBL.out] at hc
  gi_wp2
  refine ⟨by simp, .inl ⟨_, _, rfl, run_takeDeferred hK, ?_⟩⟩
  exact ⟨_, results_tmp2 rfl _ _ _, rfl, below_then HD.out HD.out.size (hB.trans (belowK_b (w := w1) (Nat.le_refl _) W D _ _ (by simp at hDD; omega) hK rfl rfl))⟩
 case stop =>
  rintro D c pre W _ _ h _
  exact h.elim
end
theorem octet_Get.calls (a0 : ByteArray) (a1 : Int) (a2 : Int) (r1 : Int) (r2 : Bool) (w : World) (h : octet_Get.f a0 a1 a2 = some (r1, r2)) :
  Calls Tryz.prog 41 #[.string a0, .int .i64 a1, .int .i64 a2] w fun e w' => e = .returned (.tuple #[.int .i64 r1, .bool r2]) ∧ Below w.heap.size w w' := by
 unfold octet_Get.f at h
 split at h
 case isFalse => cases h
 case isTrue hs =>
  have h := Option.some.inj h
  have hq := octet_has_eq a0 a1 a2 hs
  unfold Sp.get at h
  split at h
  case isTrue hb =>
   obtain ⟨rfl, rfl⟩ := Prod.mk.inj h
   rw [hb] at hq
   have hb' := of_decide_eq_true hb
   rw [bl_length] at hb'
   exact callsIn_wide.1 (Get_yes a0 a1 a2 w hs hb'.1 hb'.2.1 hb'.2.2.1 hb'.2.2.2 hq)
  case isFalse hb =>
   obtain ⟨rfl, rfl⟩ := Prod.mk.inj h
   rw [Bool.eq_false_iff.2 hb] at hq
   exact Get_no a0 a1 a2 w hq
theorem octet_Get_eq (a0 : ByteArray) (a1 a2 : Int) (hs : a0.size ≤ 281474976710656) : octet_Get.f a0 a1 a2 = some (Sp.get (bl a0) a1 a2) := by
 unfold octet_Get.f; exact if_pos hs
end Go.Proofs.YtfnjohklmpiboaaGreat.Pr
