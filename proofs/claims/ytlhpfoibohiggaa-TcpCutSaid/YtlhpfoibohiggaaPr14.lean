-- Written by a program of the session (wip/tools) out of the translation, over the kit's print; with pieces of the session's own.
import Derived.Test.YtlhpfoibohiggaaPr0
import Derived.Test.YtlhpfoibohiggaaPr4
import Derived.Test.YtlhpfoibohiggaaPr5
namespace Go.Proofs.Ytlhpfoibohiggaa.Pr
open Go.RowKit Go.Proofs.YtlhpfoibohiggaaW.PrintWords Go.Proofs.YtlhpfoibohiggaaW.PrintLast Go.Proofs.YtlhpfoibohiggaaW.PrintMore
attribute [local go_sem] max2_int min2_int max_two min_two max_three min_three max_four min_four   -- for this text's walks alone
set_option linter.unusedVariables false
set_option linter.unusedSimpArgs false
open Go.Proofs.Ytlhpfoibohiggaa.Sp
/-! ### weighbridgelaw05_TcpCut: function 8 -/
mutual
def weighbridgelaw05_TcpCut.l0 : Nat → ByteArray → Int → Bool → Int → List Int → Int → Option (Bool)
  | 0, _, _, _, _, _, _ => none
  | k + 1, x0, x1, x7, x8, x9, x10 => if x10 < x8 then (if 0 ≤ x10 then (if x10 < (x9.length : Int) then (weighbridgelaw05_TcpCut.l0 k x0 x1 x7 x8 (x9.set (x10 : Int).toNat 1) (wrap64 (x10 + 1))) else (none)) else (none)) else ((tcp_Build.f 5 0 0 0 0 0 0 (strOfNums x9) x0).bind fun bt358 => (if bt358.2 = 0 then (weighbridgelaw05_TcpCut.j1 k x0 x1 x7 x8 bt358.1 ((bt358.1.size : Int) != (wrap64 ((wrap64 (20 + x8)) + (x0.size : Int))))) else (weighbridgelaw05_TcpCut.j1 k x0 x1 x7 x8 bt358.1 true)))
def weighbridgelaw05_TcpCut.j1 : Nat → ByteArray → Int → Bool → Int → ByteArray → Bool → Option (Bool)
  | 0, _, _, _, _, _, _ => none
  | k + 1, x0, x1, x7, x8, x11, x58 => if x58 = true then (some false) else (if (wrap64 ((x11.size : Int) + 1)) = 0 then (none) else (if 0 ≤ (Int.tmod (wrap64 (x1)) (wrap64 ((x11.size : Int) + 1))) then (if (Int.tmod (wrap64 (x1)) (wrap64 ((x11.size : Int) + 1))) ≤ (x11.size : Int) then ((tcp_Parse.f (x11.extract 0 ((Int.tmod (wrap64 (x1)) (wrap64 ((x11.size : Int) + 1))) : Int).toNat)).bind fun bt360 => (if (Int.tmod (wrap64 (x1)) (wrap64 ((x11.size : Int) + 1))) < 20 then (if x7 = true then (some (bt360.2.2.2.2.2.2.2.2.2 == 2)) else (some false)) else (if (Int.tmod (wrap64 (x1)) (wrap64 ((x11.size : Int) + 1))) < (wrap64 (20 + x8)) then (if x7 = true then (some (bt360.2.2.2.2.2.2.2.2.2 == 4)) else (some false)) else (if x7 = true then (if bt360.2.2.2.2.2.2.2.2.2 = 0 then (if 0 ≤ (wrap64 ((wrap64 ((Int.tmod (wrap64 (x1)) (wrap64 ((x11.size : Int) + 1))) - 20)) - x8)) then (if (wrap64 ((wrap64 ((Int.tmod (wrap64 (x1)) (wrap64 ((x11.size : Int) + 1))) - 20)) - x8)) ≤ (x0.size : Int) then (some (bt360.2.2.2.2.2.2.2.2.1.toList == (x0.extract 0 ((wrap64 ((wrap64 ((Int.tmod (wrap64 (x1)) (wrap64 ((x11.size : Int) + 1))) - 20)) - x8)) : Int).toNat).toList)) else (none)) else (none)) else (some false)) else (some false))))) else (none)) else (none)))
end
def weighbridgelaw05_TcpCut.f (k : Nat) (a0 : ByteArray) (a1 : Int) (a2 : Int) : Option (Bool) := (weighbridgelaw05_examples.f).bind fun t353 => (if t353 = true then (if 0 ≤ (mn (a0.size : Int) 100) then (if (mn (a0.size : Int) 100) ≤ (a0.size : Int) then (if 0 ≤ (wrap64 (4 * (wrap64 (Int.tmod a2 11)))) then (if (wrap64 (4 * (wrap64 (Int.tmod a2 11))) : Int).toNat ≤ 281474976710656 then (weighbridgelaw05_TcpCut.l0 k (a0.extract 0 ((mn (a0.size : Int) 100) : Int).toNat) a1 t353 (wrap64 (4 * (wrap64 (Int.tmod a2 11)))) (List.replicate (wrap64 (4 * (wrap64 (Int.tmod a2 11))) : Int).toNat 0) 0) else (none)) else (none)) else (none)) else (none)) else (some false))
theorem weighbridgelaw05_TcpCut.mono_l : ∀ k, (∀ y0 y1 y2 y3 y4 y5, LeO (weighbridgelaw05_TcpCut.l0 k y0 y1 y2 y3 y4 y5) (weighbridgelaw05_TcpCut.l0 (k + 1) y0 y1 y2 y3 y4 y5)) ∧ (∀ y0 y1 y2 y3 y4 y5, LeO (weighbridgelaw05_TcpCut.j1 k y0 y1 y2 y3 y4 y5) (weighbridgelaw05_TcpCut.j1 (k + 1) y0 y1 y2 y3 y4 y5))
  | 0 => ⟨fun _ _ _ _ _ _ r h => by simp [weighbridgelaw05_TcpCut.l0] at h, fun _ _ _ _ _ _ r h => by simp [weighbridgelaw05_TcpCut.j1] at h⟩
  | k + 1 => by
    obtain ⟨ih0, ih1⟩ := weighbridgelaw05_TcpCut.mono_l k
    refine ⟨?_, ?_⟩
    · intro y0 y1 y2 y3 y4 y5
      unfold weighbridgelaw05_TcpCut.l0
      repeat' first
      | (with_reducible exact ih0 _ _ _ _ _ _)
      | (with_reducible exact ih1 _ _ _ _ _ _)
      | (with_reducible exact LeO.refl _)
      | (with_reducible exact LeO.none _)
      | (with_reducible refine LeO.ite ?_ ?_)
      | (with_reducible refine LeO.bind ?_ (fun _ => ?_))
      | exact ih0 _ _ _ _ _ _
      | exact ih1 _ _ _ _ _ _
      | exact LeO.none _
      | refine LeO.ite ?_ ?_
      | refine LeO.bind ?_ (fun _ => ?_)
    · intro y0 y1 y2 y3 y4 y5
      unfold weighbridgelaw05_TcpCut.j1
      repeat' first
      | (with_reducible exact ih0 _ _ _ _ _ _)
      | (with_reducible exact ih1 _ _ _ _ _ _)
      | (with_reducible exact LeO.refl _)
      | (with_reducible exact LeO.none _)
      | (with_reducible refine LeO.ite ?_ ?_)
      | (with_reducible refine LeO.bind ?_ (fun _ => ?_))
      | exact ih0 _ _ _ _ _ _
      | exact ih1 _ _ _ _ _ _
      | exact LeO.none _
      | refine LeO.ite ?_ ?_
      | refine LeO.bind ?_ (fun _ => ?_)
theorem weighbridgelaw05_TcpCut.mono : ∀ a0 a1 a2 k, LeO (weighbridgelaw05_TcpCut.f k a0 a1 a2) (weighbridgelaw05_TcpCut.f (k + 1) a0 a1 a2) := by
  intro a0 a1 a2 k
  obtain ⟨ih0, ih1⟩ := weighbridgelaw05_TcpCut.mono_l k
  unfold weighbridgelaw05_TcpCut.f
  repeat' first
      | (with_reducible exact ih0 _ _ _ _ _ _)
      | (with_reducible exact ih1 _ _ _ _ _ _)
      | (with_reducible exact LeO.refl _)
      | (with_reducible exact LeO.none _)
      | (with_reducible refine LeO.ite ?_ ?_)
      | (with_reducible refine LeO.bind ?_ (fun _ => ?_))
      | exact ih0 _ _ _ _ _ _
      | exact ih1 _ _ _ _ _ _
      | exact LeO.none _
      | refine LeO.ite ?_ ?_
      | refine LeO.bind ?_ (fun _ => ?_)
set_option maxHeartbeats 8000000 in
set_option maxRecDepth 100000 in
theorem weighbridgelaw05_TcpCut.calls (k : Nat) (a0 : ByteArray) (a1 : Int) (a2 : Int) (r : Bool) (w : World) (h : weighbridgelaw05_TcpCut.f k a0 a1 a2 = some r) (hr_ : r = true) :
    Calls Try.prog 8 #[.string a0, .int .u8 a1, .int .u8 a2] w fun e w' => e = .returned (.bool r) ∧ Below w.heap.size w w' := by
  have hu24 := Try.underlying24
  have HB := Aside0.mk (Below.refl w.heap.size w)
  have H : ((weighbridgelaw05_examples.f).bind fun t353 => (if t353 = true then (if 0 ≤ (mn (a0.size : Int) 100) then (if (mn (a0.size : Int) 100) ≤ (a0.size : Int) then (if 0 ≤ (wrap64 (4 * (wrap64 (Int.tmod a2 11)))) then (if (wrap64 (4 * (wrap64 (Int.tmod a2 11))) : Int).toNat ≤ 281474976710656 then (weighbridgelaw05_TcpCut.l0 k (a0.extract 0 ((mn (a0.size : Int) 100) : Int).toNat) a1 t353 (wrap64 (4 * (wrap64 (Int.tmod a2 11)))) (List.replicate (wrap64 (4 * (wrap64 (Int.tmod a2 11))) : Int).toNat 0) 0) else (none)) else (none)) else (none)) else (none)) else (some false))) = some r := h
  clear h
  replace H := Option.bind_eq_some_iff.mp H
  obtain ⟨t353, A40, H⟩ := H
  replace H : (if t353 = true then (if 0 ≤ (mn (a0.size : Int) 100) then (if (mn (a0.size : Int) 100) ≤ (a0.size : Int) then (if 0 ≤ (wrap64 (4 * (wrap64 (Int.tmod a2 11)))) then (if (wrap64 (4 * (wrap64 (Int.tmod a2 11))) : Int).toNat ≤ 281474976710656 then (weighbridgelaw05_TcpCut.l0 k (a0.extract 0 ((mn (a0.size : Int) 100) : Int).toNat) a1 t353 (wrap64 (4 * (wrap64 (Int.tmod a2 11)))) (List.replicate (wrap64 (4 * (wrap64 (Int.tmod a2 11))) : Int).toNat 0) 0) else (none)) else (none)) else (none)) else (none)) else (some false)) = some r := H
  have A4 := Aside0.mk A40
  clear A40
  by_cases c5 : t353 = true
  · subst c5
    have H1 : (if 0 ≤ (mn (a0.size : Int) 100) then (if (mn (a0.size : Int) 100) ≤ (a0.size : Int) then (if 0 ≤ (wrap64 (4 * (wrap64 (Int.tmod a2 11)))) then (if (wrap64 (4 * (wrap64 (Int.tmod a2 11))) : Int).toNat ≤ 281474976710656 then (weighbridgelaw05_TcpCut.l0 k (a0.extract 0 ((mn (a0.size : Int) 100) : Int).toNat) a1 true (wrap64 (4 * (wrap64 (Int.tmod a2 11)))) (List.replicate (wrap64 (4 * (wrap64 (Int.tmod a2 11))) : Int).toNat 0) 0) else (none)) else (none)) else (none)) else (none)) = some r := by first | (rw [if_pos rfl] at H; exact H) | (rw [if_pos trivial] at H; exact H)
    clear H
    have H := H1
    clear H1
    obtain ⟨ji6, hji6⟩ : ∃ j_ : Int, (mn (a0.size : Int) 100) = j_ := ⟨_, rfl⟩
    replace H : (if 0 ≤ (ji6) then (if (ji6) ≤ (a0.size : Int) then (if 0 ≤ (wrap64 (4 * (wrap64 (Int.tmod a2 11)))) then (if (wrap64 (4 * (wrap64 (Int.tmod a2 11))) : Int).toNat ≤ 281474976710656 then (weighbridgelaw05_TcpCut.l0 k (a0.extract 0 ((ji6) : Int).toNat) a1 true (wrap64 (4 * (wrap64 (Int.tmod a2 11)))) (List.replicate (wrap64 (4 * (wrap64 (Int.tmod a2 11))) : Int).toNat 0) 0) else (none)) else (none)) else (none)) else (none)) = some r := by first | (rw [hji6] at H; exact H) | (simp only [hji6] at H ⊢; exact H)
    (try rw [hji6] at A4)
    (try (have hji6h : ji6 ≤ 100 := by (rw [← hji6]; unfold mn; (repeat' split) <;> omega)))
    (try (have hji6g : ji6 ≤ 64 := by omega))
    (try (have hji6l : 0 ≤ ji6 := by (rw [← hji6]; unfold mn; (repeat' split) <;> omega)))
    (try (have hji6m : 0 ≤ ji6 := by omega))
    have hji6_ : (if 100 < (a0.size : Int) then 100 else (a0.size : Int)) = ji6 := hji6
    by_cases c7 : 0 ≤ (ji6)
    · rw [if_pos c7] at H
      have c7b0 := eq_true c7
      have c7b1 : decide (0 ≤ (ji6)) = true := decide_eq_true c7
      clear c7
      by_cases c8 : (ji6) ≤ (a0.size : Int)
      · rw [if_pos c8] at H
        have c8b0 := eq_true c8
        have c8b1 : decide ((ji6) ≤ (a0.size : Int)) = true := decide_eq_true c8
        clear c8
        obtain ⟨ji9, hji9⟩ : ∃ j_ : Int, (wrap64 (4 * (wrap64 (Int.tmod a2 11)))) = j_ := ⟨_, rfl⟩
        replace H : (if 0 ≤ (ji9) then (if (ji9 : Int).toNat ≤ 281474976710656 then (weighbridgelaw05_TcpCut.l0 k (a0.extract 0 ((ji6) : Int).toNat) a1 true ji9 (List.replicate (ji9 : Int).toNat 0) 0) else (none)) else (none)) = some r := by first | (rw [hji9] at H; exact H) | (simp only [hji9] at H ⊢; exact H)
        (try rw [hji9] at A4)
        have hji9w : (IntKind.i64.wrap (4 * (wrap64 (Int.tmod a2 11)))) = ji9 := (i64_w _).trans hji9
        by_cases c10 : 0 ≤ (ji9)
        · rw [if_pos c10] at H
          have c10b0 := eq_true c10
          have c10b1 : decide (0 ≤ (ji9)) = true := decide_eq_true c10
          clear c10
          by_cases c11 : (ji9 : Int).toNat ≤ 281474976710656
          · rw [if_pos c11] at H
            have c11b0 := eq_true c11
            have c11b1 : decide ((ji9 : Int).toNat ≤ 281474976710656) = true := decide_eq_true c11
            clear c11
            obtain ⟨y354, hy354⟩ : ∃ y_ : List Int, y_ = (List.replicate (ji9 : Int).toNat 0) := ⟨_, rfl⟩
            replace H : (weighbridgelaw05_TcpCut.l0 k (a0.extract 0 ((ji6) : Int).toNat) a1 true ji9 y354 0) = some r := by first | (rw [hy354]; with_reducible exact H) | (have H2_ := (Option.bind_some _ _).symm.trans H; rw [hy354]; with_reducible exact H2_) | (have H2_ := (Option.bind_some _ _).symm.trans H; with_reducible exact H2_) | with_reducible exact H | (rw [hy354]; exact H) | exact H
            have Ny354 := Aside0.mk hy354
            clear hy354
            have H' := Aside0.mk H
            clear H
            go_enter Try.func8, Try.ntmps8
            go_wp2_with (first | ((with_reducible refine gate_callee (f := 10) rfl ?_); refine goesL_ (some 17) rfl rfl Try.func10 (by kernel_rfl) rfl #[] rfl (by (try simp only [List.map_toArray, List.map_cons, List.map_nil]); first | done | rfl | (simp only [List.length_drop, List.length_take]; rfl)) ?_; (with_reducible refine (weighbridgelaw05_examples.calls  true _ A4.out).mono ?_); rintro e w12 ⟨rfl, hb⟩; (try clear A4); refine ⟨_, rfl, ?_⟩; have n0_ := Aside0.mk (below_step (by repeat (first | (with_reducible first | exact HB.out | apply below_alloc | apply pw_below_drewN | apply below_drew1) | exact HB.out)) hb); clear HB; have HB := n0_; clear n0_; (try clear hb); (try clear hb2); (try clear hk); (try clear hi)) | ((with_reducible refine gate_dst (N := 30) rfl ?_); (try (refine gate_guard (by rfl) ?_; dsimp only)); refine Kd.R_make (Kd.int .u8) _ 5 rfl (N := 30) rfl 38 _ _ rfl ji9 rfl rfl Try.underlying38 (.int .u8 0) 1 info5 rfl (by decide) (by omega) 0 (ok := fun _ => True) (okp := fun _ => True) rfl (fun _ hk => hk) trivial (of_decide_eq_true (by first | (with_reducible assumption) | assumption)) (Nat.le_trans (Nat.mul_le_mul_right _ (of_decide_eq_true (by first | (with_reducible assumption) | assumption) : ji9.toNat ≤ 281474976710656)) (by omega)) (Below.refl _ _) (Nat.le_refl _) ?_; intro v355 w13 ho14 hb hg_ hnew_; clear hg_ hnew_; (first | rw [← Ny354.out] at ho14 | (simp only [Int.reduceToNat] at ho14; rw [← Ny354.out] at ho14)); have n0_ := Aside0.mk (Kd.R_lower ho14 (below_size (by repeat (first | (with_reducible first | exact HB.out | apply below_alloc | apply pw_below_drewN | apply below_drew1) | exact HB.out)))); have n1_ := Aside0.mk (below_step (by repeat (first | (with_reducible first | exact HB.out | apply below_alloc | apply pw_below_drewN | apply below_drew1) | exact HB.out)) hb); clear HB; have HO356 := n0_; have HB := n1_; clear n0_ n1_; clear hb ho14))
            go_loopg [10] k (fun kq v10 w' => ∃ (x9_1 : List Int) (x10_1 : Int), v10 = .int .i64 x10_1 ∧ Aside0 (weighbridgelaw05_TcpCut.l0 kq (a0.extract 0 ((ji6) : Int).toNat) a1 true ji9 x9_1 x10_1 = some r) ∧ Aside0 (kq ≤ k) ∧ Aside0 (Kd.R (Kd.int .u8) 5 w' w.heap.size (fun _ => True) v355 x9_1) ∧ Aside0 (Below w.heap.size w w'))
            case atStart => exact ⟨(y354), (0), (by first | rfl | (simp; done) | (simp [*]; done)), H', ⟨Nat.le_refl _⟩, ⟨by (with_reducible repeat (first | apply Kd.R_alloc | apply Kd.R_drewN | apply Kd.R_drew)); exact HO356.out⟩, ⟨by repeat (first | (with_reducible first | exact HB.out | apply below_alloc | apply pw_below_drewN | apply below_drew1) | exact HB.out)⟩⟩
            case round =>
              clear H'
              try clear c1
              try clear p2
              try clear c5
              try clear p6
              try clear c7
              try clear c7b0
              try clear c7b1
              try clear c8
              try clear c8b0
              try clear c8b1
              try clear c10
              try clear c10b0
              try clear c10b1
              try clear c11
              try clear c11b0
              try clear c11b1
              obtain ⟨x9_1, x10_1, rfl, HA, HK1, HO_9, HB⟩ := hrel
              cases gk with
              | zero => exact absurd HA.out (by simp [weighbridgelaw05_TcpCut.l0])
              | succ k1 =>
                have H := HA.out
                clear HA
                simp only [weighbridgelaw05_TcpCut.l0] at H
                by_cases c15 : x10_1 < ji9
                · rw [if_pos c15] at H
                  have c15b0 : decide (x10_1 < ji9) = true := decide_eq_true c15
                  clear c15
                  by_cases c16 : 0 ≤ x10_1
                  · rw [if_pos c16] at H
                    have c16b0 : decide (0 ≤ x10_1) = true := decide_eq_true c16
                    clear c16
                    by_cases c17 : x10_1 < (x9_1.length : Int)
                    · rw [if_pos c17] at H
                      have c17b0 : decide (x10_1 < (x9_1.length : Int)) = true := decide_eq_true c17
                      clear c17
                      obtain ⟨y357, hy357⟩ : ∃ y_ : List Int, y_ = (x9_1.set (x10_1 : Int).toNat 1) := ⟨_, rfl⟩
                      replace H : (weighbridgelaw05_TcpCut.l0 k1 (a0.extract 0 ((ji6) : Int).toNat) a1 true ji9 y357 (wrap64 (x10_1 + 1))) = some r := by first | (rw [hy357]; with_reducible exact H) | (have H2_ := (Option.bind_some _ _).symm.trans H; rw [hy357]; with_reducible exact H2_) | (have H2_ := (Option.bind_some _ _).symm.trans H; with_reducible exact H2_) | with_reducible exact H | (rw [hy357]; exact H) | exact H
                      have Ny357 := Aside0.mk hy357
                      clear hy357
                      have H' := Aside0.mk H
                      clear H
                      have p18 : 0 ≤ (x10_1 : Int) := of_decide_eq_true (by first | (with_reducible assumption) | assumption)
                      have q18 : (x10_1 : Int) < ((x9_1.length : Int) : Int) := of_decide_eq_true (by first | (with_reducible assumption) | assumption)
                      obtain ⟨go18, co18, eo18, gb18, gl18, cl18, HG18⟩ := Kd.R_form HO_9.out (by omega)
                      (first | cases eo18 | (injection eo18 with ea_ en_ ec_; (first | subst ea_ | (injection ea_ with ea_; subst ea_)); subst ec_; clear en_))
                      have GB18 := Aside0.mk gb18
                      have GG18 := Aside0.mk HG18
                      clear gb18 gl18 HG18
                      obtain ⟨hx18_0, hf18_0⟩ := Kd.R_celln 0 HO_9.out (x10_1 : Int) p18 q18
                      replace p18 := eq_true p18
                      replace q18 := eq_true q18
                      have HP19 := Kd.R_putg HO_9.out (x10_1 : Int) 1
                      go_wp2_with (first | ((with_reducible refine gate_store (t := 5) (p := 38) rfl ?_); refine store_event (t := 5) (p := 38) (v := ?vo_w20) (w1 := (wr.setCell ⟨go18, (x10_1 : Int).toNat, none⟩ (.int .u8 1))) ?hg ?ho ?hn ?hr ?_; (case ho => rfl); (case hg => rfl); (case hn => rfl); (case hr => first | (go_simp; done) | (go_simp; rfl)); intro w20 hw; have hg : wr.grownBy w20 (some go18) := (by rw [hw]; exact HP19.2); have hp_ : Kd.R (Kd.int .u8) 5 w20 w.heap.size (fun _ => True) (.slice (some ⟨go18, 0, none⟩) x9_1.length co18) y357 := (by rw [hw, Ny357.out]; exact HP19.1); clear HP19; have n0_ := Aside0.mk (hp_); have n1_ := Aside0.mk ((by rw [hw]; exact below_set (HB.out) GB18.out : Below w.heap.size w w20)); clear HO_9; clear HB; have HO_9 := n0_; have HB := n1_; clear n0_ n1_; clear hg hw hp_))
                      go_roundg k1
                      case measure => have := HK1.out; omega
                      case rel => exact ⟨(y357), (wrap64 (x10_1 + 1)), (by first | rfl | (simp; done) | (congr 2; simp only [ByteArray.size_extract, ByteArray.size_append]; (try have := of_eq_true c7b0); (try have := of_eq_true c8b0); (try have := of_eq_true c10b0); (try have := of_eq_true c11b0); (try unfold wrap64); omega) | (simp only [ByteArray.size_extract, ByteArray.size_append, Nat.sub_zero]; done) | (congr 1; simp only [ByteArray.size_extract, ByteArray.size_append, Nat.sub_zero]; (try have := of_eq_true c7b0); (try have := of_eq_true c8b0); (try have := of_eq_true c10b0); (try have := of_eq_true c11b0); omega) | (simp [*]; done)), H', ⟨by have := HK1.out; omega⟩, ⟨by (with_reducible repeat (first | apply Kd.R_alloc | apply Kd.R_drewN | apply Kd.R_drew)); exact HO_9.out⟩, ⟨by repeat (first | (with_reducible first | exact HB.out | apply below_alloc | apply pw_below_drewN | apply below_drew1) | exact HB.out)⟩⟩
                    · rw [if_neg c17] at H
                      exact absurd H (by simp)
                  · rw [if_neg c16] at H
                    exact absurd H (by simp)
                · rw [if_neg c15] at H
                  have c15b0 : decide (x10_1 < ji9) = false := decide_eq_false c15
                  clear c15
                  replace H := Option.bind_eq_some_iff.mp H
                  obtain ⟨⟨t358, t359⟩, A210, H⟩ := H
                  replace H : (if t359 = 0 then (weighbridgelaw05_TcpCut.j1 k1 (a0.extract 0 ((ji6) : Int).toNat) a1 true ji9 t358 ((t358.size : Int) != (wrap64 ((wrap64 (20 + ji9)) + ((a0.extract 0 ((ji6) : Int).toNat).size : Int))))) else (weighbridgelaw05_TcpCut.j1 k1 (a0.extract 0 ((ji6) : Int).toNat) a1 true ji9 t358 true)) = some r := H
                  have A21 := Aside0.mk A210
                  clear A210
                  have HC22 := Aside0.mk H
                  clear H
                  have hcv23 := own_string (P := Try.prog) Try.underlying38 Try.underlying5 Try.underlying9 (Kd.own_of_R HO_9.out)
                  go_upto_region 12 with (first | ((with_reducible refine gate_callee (f := 11) rfl ?_); refine goesL_ (some 44) rfl rfl Try.func11 (by kernel_rfl) rfl #[.agg #[.int .i64 5, .int .i64 0, .int .u32 0, .int .u32 0, .int .i64 0, .int .i64 0, .int .i64 0, .string (strOfNums x9_1)], .string (a0.extract 0 ((ji6) : Int).toNat)] rfl (by (try simp only [List.map_toArray, List.map_cons, List.map_nil]); first | done | (simp only [hji6]; rfl) | rfl | (simp only [List.length_drop, List.length_take]; rfl)) ?_; (with_reducible refine (tcp_Build.calls 5 0 0 0 0 0 0 (strOfNums x9_1) (a0.extract 0 ((ji6) : Int).toNat) t358 t359 _ A21.out).mono ?_); rintro e w24 ⟨rfl, hb⟩; refine ⟨_, rfl, ?_⟩; have n0_ := Aside0.mk (Kd.R_below (by (with_reducible repeat (first | apply Kd.R_alloc | apply Kd.R_drewN | apply Kd.R_drew)); exact HO_9.out) hb); have n1_ := Aside0.mk (below_step (by repeat (first | (with_reducible first | exact HB.out | apply below_alloc | apply pw_below_drewN | apply below_drew1) | exact HB.out)) hb); clear HO_9; clear HB; have HO_9 := n0_; have HB := n1_; clear n0_ n1_; (try clear hb); (try clear hb2); (try clear hk); (try clear hi)))
                  (try simp only [Act.put, List.setIfInBounds_toArray, List.set_cons_zero, List.set_cons_succ])
                  go_cut [58] (fun v58 wc => ∃ (kq : Nat) (x58_21 : Bool), v58 = .bool x58_21 ∧ Aside0 (weighbridgelaw05_TcpCut.j1 kq (a0.extract 0 ((ji6) : Int).toNat) a1 true ji9 t358 x58_21 = some r) ∧ Aside0 (kq ≤ k1) ∧ Aside0 (Below w.heap.size w wc))
                  case first =>
                    have H := HC22.out
                    clear HC22
                    by_cases c25 : t359 = 0
                    · rw [if_pos c25] at H
                      have c25b0 : (t359 == 0) = true := beq_iff_eq.mpr c25
                      have c25b1 : (t359 != 0) = false := bne_eq_false_iff_eq.mpr c25
                      clear c25
                      (first | rw [c25b0] | (simp only [i64_w, i32_w]; rw [c25b0]) | skip)
                      have H' := Aside0.mk H
                      clear H
                      go_wp2
                      go_meet
                      case rel => exact ⟨_, (((t358.size : Int) != (wrap64 ((wrap64 (20 + ji9)) + ((a0.extract 0 ((ji6) : Int).toNat).size : Int))))), (by first | rfl | (simp; done) | (congr 2; simp only [ByteArray.size_extract, ByteArray.size_append]; (try have := of_eq_true c7b0); (try have := of_eq_true c8b0); (try have := of_eq_true c10b0); (try have := of_eq_true c11b0); (try unfold wrap64); omega) | (simp only [ByteArray.size_extract, ByteArray.size_append, Nat.sub_zero]; done) | (congr 1; simp only [ByteArray.size_extract, ByteArray.size_append, Nat.sub_zero]; (try have := of_eq_true c7b0); (try have := of_eq_true c8b0); (try have := of_eq_true c10b0); (try have := of_eq_true c11b0); omega) | (simp only [← hji6, ← hji9] <;> (first | rfl | simp)) | (simp [*]; done)), H', ⟨by have := HK1.out; first | omega | exact Nat.le_refl _⟩, ⟨by repeat (first | (with_reducible first | exact HB.out | apply below_alloc | apply pw_below_drewN | apply below_drew1) | exact HB.out)⟩⟩
                    · rw [if_neg c25] at H
                      have c25b0 : (t359 == 0) = false := beq_eq_false_iff_ne.mpr c25
                      have c25b1 : (t359 != 0) = true := bne_iff_ne.mpr c25
                      (first | rw [c25b0] | (simp only [i64_w, i32_w]; rw [c25b0]) | skip)
                      have H' := Aside0.mk H
                      clear H
                      go_wp2
                      go_meet
                      case rel => exact ⟨_, (true), (by first | rfl | (simp; done) | (congr 2; simp only [ByteArray.size_extract, ByteArray.size_append]; (try have := of_eq_true c7b0); (try have := of_eq_true c8b0); (try have := of_eq_true c10b0); (try have := of_eq_true c11b0); (try unfold wrap64); omega) | (simp only [ByteArray.size_extract, ByteArray.size_append, Nat.sub_zero]; done) | (congr 1; simp only [ByteArray.size_extract, ByteArray.size_append, Nat.sub_zero]; (try have := of_eq_true c7b0); (try have := of_eq_true c8b0); (try have := of_eq_true c10b0); (try have := of_eq_true c11b0); omega) | (simp [*]; done)), H', ⟨by have := HK1.out; first | omega | exact Nat.le_refl _⟩, ⟨by repeat (first | (with_reducible first | exact HB.out | apply below_alloc | apply pw_below_drewN | apply below_drew1) | exact HB.out)⟩⟩
                  case rest =>
                    clear HC22
                    try clear c1
                    try clear p1
                    try clear q1
                    try clear hx1
                    try clear c2
                    try clear p2
                    try clear hcv2
                    try clear c5
                    try clear p6
                    try clear c7
                    try clear c7b0
                    try clear c7b1
                    try clear c8
                    try clear c8b0
                    try clear c8b1
                    try clear c10
                    try clear c10b0
                    try clear c10b1
                    try clear c11
                    try clear c11b0
                    try clear c11b1
                    try clear c15
                    try clear c15b0
                    try clear c16
                    try clear c16b0
                    try clear c17
                    try clear c17b0
                    try clear p18
                    try clear q18
                    try clear hx18
                    try clear hf18
                    try clear hcv23
                    try clear c25
                    try clear c25b0
                    try clear c25b1
                    try clear hx18_0
                    try clear p18
                    try clear p2
                    try clear p6
                    try clear q18
                    obtain ⟨kq, x58_21, rfl, HA, HJ21, HB⟩ := hcut
                    cases kq with
                    | zero => exact absurd HA.out (by simp [weighbridgelaw05_TcpCut.j1])
                    | succ kj21 =>
                      have H := HA.out
                      clear HA
                      simp only [weighbridgelaw05_TcpCut.j1] at H
                      by_cases c26 : x58_21 = true
                      · subst c26
                        have H1 : (some false) = some r := by first | (rw [if_pos rfl] at H; exact H) | (rw [if_pos trivial] at H; exact H)
                        clear H
                        have H := H1
                        clear H1
                        exact absurd ((Option.some.inj H).trans hr_) (by decide)
                      · replace c26 := Bool.eq_false_iff.mpr c26
                        subst c26
                        have H1 : (if (wrap64 ((t358.size : Int) + 1)) = 0 then (none) else (if 0 ≤ (Int.tmod (wrap64 (a1)) (wrap64 ((t358.size : Int) + 1))) then (if (Int.tmod (wrap64 (a1)) (wrap64 ((t358.size : Int) + 1))) ≤ (t358.size : Int) then ((tcp_Parse.f (t358.extract 0 ((Int.tmod (wrap64 (a1)) (wrap64 ((t358.size : Int) + 1))) : Int).toNat)).bind fun bt360 => (if (Int.tmod (wrap64 (a1)) (wrap64 ((t358.size : Int) + 1))) < 20 then (if true = true then (some (bt360.2.2.2.2.2.2.2.2.2 == 2)) else (some false)) else (if (Int.tmod (wrap64 (a1)) (wrap64 ((t358.size : Int) + 1))) < (wrap64 (20 + ji9)) then (if true = true then (some (bt360.2.2.2.2.2.2.2.2.2 == 4)) else (some false)) else (if true = true then (if bt360.2.2.2.2.2.2.2.2.2 = 0 then (if 0 ≤ (wrap64 ((wrap64 ((Int.tmod (wrap64 (a1)) (wrap64 ((t358.size : Int) + 1))) - 20)) - ji9)) then (if (wrap64 ((wrap64 ((Int.tmod (wrap64 (a1)) (wrap64 ((t358.size : Int) + 1))) - 20)) - ji9)) ≤ ((a0.extract 0 ((ji6) : Int).toNat).size : Int) then (some (bt360.2.2.2.2.2.2.2.2.1.toList == ((a0.extract 0 ((ji6) : Int).toNat).extract 0 ((wrap64 ((wrap64 ((Int.tmod (wrap64 (a1)) (wrap64 ((t358.size : Int) + 1))) - 20)) - ji9)) : Int).toNat).toList)) else (none)) else (none)) else (some false)) else (some false))))) else (none)) else (none))) = some r := by rw [if_neg (show ¬ (false = true) by decide)] at H; exact H
                        clear H
                        have H := H1
                        clear H1
                        by_cases c27 : (wrap64 ((t358.size : Int) + 1)) = 0
                        · rw [if_pos c27] at H
                          exact absurd H (by simp)
                        · rw [if_neg c27] at H
                          have c27b0 : ((wrap64 ((t358.size : Int) + 1)) == 0) = false := beq_eq_false_iff_ne.mpr c27
                          have c27b1 : ((wrap64 ((t358.size : Int) + 1)) != 0) = true := bne_iff_ne.mpr c27
                          obtain ⟨ji28, hji28⟩ : ∃ j_ : Int, (Int.tmod (wrap64 (a1)) (wrap64 ((t358.size : Int) + 1))) = j_ := ⟨_, rfl⟩
                          replace H : (if 0 ≤ (ji28) then (if (ji28) ≤ (t358.size : Int) then ((tcp_Parse.f (t358.extract 0 ((ji28) : Int).toNat)).bind fun bt360 => (if (ji28) < 20 then (if true = true then (some (bt360.2.2.2.2.2.2.2.2.2 == 2)) else (some false)) else (if (ji28) < (wrap64 (20 + ji9)) then (if true = true then (some (bt360.2.2.2.2.2.2.2.2.2 == 4)) else (some false)) else (if true = true then (if bt360.2.2.2.2.2.2.2.2.2 = 0 then (if 0 ≤ (wrap64 ((wrap64 ((ji28) - 20)) - ji9)) then (if (wrap64 ((wrap64 ((ji28) - 20)) - ji9)) ≤ ((a0.extract 0 ((ji6) : Int).toNat).size : Int) then (some (bt360.2.2.2.2.2.2.2.2.1.toList == ((a0.extract 0 ((ji6) : Int).toNat).extract 0 ((wrap64 ((wrap64 ((ji28) - 20)) - ji9)) : Int).toNat).toList)) else (none)) else (none)) else (some false)) else (some false))))) else (none)) else (none)) = some r := by first | (rw [hji28] at H; exact H) | (simp only [hji28] at H ⊢; exact H)
                          by_cases c29 : 0 ≤ (ji28)
                          · rw [if_pos c29] at H
                            have c29b0 := eq_true c29
                            have c29b1 : decide (0 ≤ (ji28)) = true := decide_eq_true c29
                            clear c29
                            by_cases c30 : (ji28) ≤ (t358.size : Int)
                            · rw [if_pos c30] at H
                              have c30b0 := eq_true c30
                              have c30b1 : decide ((ji28) ≤ (t358.size : Int)) = true := decide_eq_true c30
                              clear c30
                              replace H := Option.bind_eq_some_iff.mp H
                              obtain ⟨⟨t360, t361, t362, t363, t364, t365, t366, t367, t368, t369⟩, A310, H⟩ := H
                              replace H : (if (ji28) < 20 then (if true = true then (some (t369 == 2)) else (some false)) else (if (ji28) < (wrap64 (20 + ji9)) then (if true = true then (some (t369 == 4)) else (some false)) else (if true = true then (if t369 = 0 then (if 0 ≤ (wrap64 ((wrap64 ((ji28) - 20)) - ji9)) then (if (wrap64 ((wrap64 ((ji28) - 20)) - ji9)) ≤ ((a0.extract 0 ((ji6) : Int).toNat).size : Int) then (some (t368.toList == ((a0.extract 0 ((ji6) : Int).toNat).extract 0 ((wrap64 ((wrap64 ((ji28) - 20)) - ji9)) : Int).toNat).toList)) else (none)) else (none)) else (some false)) else (some false)))) = some r := H
                              have A31 := Aside0.mk A310
                              clear A310
                              by_cases c32 : (ji28) < 20
                              · rw [if_pos c32] at H
                                have c32b0 : decide ((ji28) < 20) = true := decide_eq_true c32
                                clear c32
                                have c33 : true = true := rfl
                                · clear c33
                                  have H1 : (some (t369 == 2)) = some r := by first | (rw [if_pos rfl] at H; exact H) | (rw [if_pos trivial] at H; exact H)
                                  clear H
                                  have H := H1
                                  clear H1
                                  obtain rfl := Option.some.inj H
                                  go_wp2_with (first | ((with_reducible refine gate_callee (f := 20) rfl ?_); refine goesL_ (some 69) rfl rfl Try.func20 (by kernel_rfl) rfl #[.string (t358.extract 0 ((ji28) : Int).toNat)] rfl (by (try simp only [List.map_toArray, List.map_cons, List.map_nil]); first | done | (simp only [hji28]; rfl) | rfl | (simp only [List.length_drop, List.length_take]; rfl)) ?_; (with_reducible refine (tcp_Parse.calls (t358.extract 0 ((ji28) : Int).toNat) t360 t361 t362 t363 t364 t365 t366 t367 t368 t369 _ A31.out).mono ?_); rintro e w34 ⟨rfl, hb⟩; (try clear A31); refine ⟨_, rfl, ?_⟩; have n0_ := Aside0.mk (below_step (by repeat (first | (with_reducible first | exact HB.out | apply below_alloc | apply pw_below_drewN | apply below_drew1) | exact HB.out)) hb); clear HB; have HB := n0_; clear n0_; (try clear hb); (try clear hb2); (try clear hk); (try clear hi)) | ((with_reducible refine gate_dst (N := 14) rfl ?_); (try (refine gate_guard (by rfl) ?_; dsimp only)); refine box_event ?hg (N := 14) ?hd (cs := #[.int .i64 0, .int .i64 0, .int .u32 0, .int .u32 0, .int .i64 0, .int .i64 0, .int .i64 0, .string (⟨#[]⟩ : ByteArray)]) (t := 24) ?hr ?_; (case hd => rfl); (case hg => rfl); (case hr => first | (go_simp; done) | (go_simp; rfl)); intro gb370 hg w35 hbox hb; have n0_ := Aside0.mk (below_step (by repeat (first | (with_reducible first | exact HB.out | apply below_alloc | apply pw_below_drewN | apply below_drew1) | exact HB.out)) hb); have n1_ := Aside0.mk (hbox); have n2_ := Aside0.mk ((by rw [hg]; exact (below_size (by repeat (first | (with_reducible first | exact HB.out | apply below_alloc | apply pw_below_drewN | apply below_drew1) | exact HB.out))) : w.heap.size ≤ gb370)); have n3_ := Aside0.mk ((by rw [hg]; exact (below_size (by repeat (first | (with_reducible first | exact HB.out | apply below_alloc | apply pw_below_drewN | apply below_drew1) | exact HB.out))) : w.heap.size ≤ gb370)); clear HB; have HB := n0_; have BK370 := n1_; have GW370 := n2_; have GE370 := n3_; clear n0_ n1_ n2_ n3_; clear hb hbox hg; have hcz36_0 : w35.cell? ⟨gb370, 0, none⟩ = some (.int .i64 0) := (blk_cell BK370.out 0).trans rfl; have hcz36_1 : w35.cell? ⟨gb370, 1, none⟩ = some (.int .i64 0) := (blk_cell BK370.out 1).trans rfl; have hcz36_2 : w35.cell? ⟨gb370, 2, none⟩ = some (.int .u32 0) := (blk_cell BK370.out 2).trans rfl; have hcz36_3 : w35.cell? ⟨gb370, 3, none⟩ = some (.int .u32 0) := (blk_cell BK370.out 3).trans rfl; have hcz36_4 : w35.cell? ⟨gb370, 4, none⟩ = some (.int .i64 0) := (blk_cell BK370.out 4).trans rfl; have hcz36_5 : w35.cell? ⟨gb370, 5, none⟩ = some (.int .i64 0) := (blk_cell BK370.out 5).trans rfl; have hcz36_6 : w35.cell? ⟨gb370, 6, none⟩ = some (.int .i64 0) := (blk_cell BK370.out 6).trans rfl; have hcz36_7 : w35.cell? ⟨gb370, 7, none⟩ = some (.string (⟨#[]⟩ : ByteArray)) := (blk_cell BK370.out 7).trans rfl; have hfz36_0 := blk_frozen BK370.out 0; have hfz36_1 := blk_frozen BK370.out 1; have hfz36_2 := blk_frozen BK370.out 2; have hfz36_3 := blk_frozen BK370.out 3; have hfz36_4 := blk_frozen BK370.out 4; have hfz36_5 := blk_frozen BK370.out 5; have hfz36_6 := blk_frozen BK370.out 6; have hfz36_7 := blk_frozen BK370.out 7))
                                  go_ret
                                  exact ⟨by first | rfl | (simp [errW_none, errW_some] <;> rfl) | (simp only [← hji6, ← hji9, ← hji28]; first | rfl | (simp [errW_none, errW_some] <;> rfl)) | (simp [*, errW_none, errW_some] <;> rfl), by repeat (first | (with_reducible first | exact HB.out | apply below_alloc | apply pw_below_drewN | apply below_drew1 | refine below_set ?_ GE370.out) | exact HB.out)⟩
                              · rw [if_neg c32] at H
                                have c32b0 : decide ((ji28) < 20) = false := decide_eq_false c32
                                clear c32
                                by_cases c37 : (ji28) < (wrap64 (20 + ji9))
                                · rw [if_pos c37] at H
                                  have c37b0 : decide ((ji28) < (wrap64 (20 + ji9))) = true := decide_eq_true c37
                                  clear c37
                                  have c38 : true = true := rfl
                                  · clear c38
                                    have H1 : (some (t369 == 4)) = some r := by first | (rw [if_pos rfl] at H; exact H) | (rw [if_pos trivial] at H; exact H)
                                    clear H
                                    have H := H1
                                    clear H1
                                    obtain rfl := Option.some.inj H
                                    go_wp2_with (first | ((with_reducible refine gate_callee (f := 20) rfl ?_); refine goesL_ (some 69) rfl rfl Try.func20 (by kernel_rfl) rfl #[.string (t358.extract 0 ((ji28) : Int).toNat)] rfl (by (try simp only [List.map_toArray, List.map_cons, List.map_nil]); first | done | (simp only [hji28]; rfl) | rfl | (simp only [List.length_drop, List.length_take]; rfl)) ?_; (with_reducible refine (tcp_Parse.calls (t358.extract 0 ((ji28) : Int).toNat) t360 t361 t362 t363 t364 t365 t366 t367 t368 t369 _ A31.out).mono ?_); rintro e w39 ⟨rfl, hb⟩; (try clear A31); refine ⟨_, rfl, ?_⟩; have n0_ := Aside0.mk (below_step (by repeat (first | (with_reducible first | exact HB.out | apply below_alloc | apply pw_below_drewN | apply below_drew1) | exact HB.out)) hb); clear HB; have HB := n0_; clear n0_; (try clear hb); (try clear hb2); (try clear hk); (try clear hi)) | ((with_reducible refine gate_dst (N := 14) rfl ?_); (try (refine gate_guard (by rfl) ?_; dsimp only)); refine box_event ?hg (N := 14) ?hd (cs := #[.int .i64 0, .int .i64 0, .int .u32 0, .int .u32 0, .int .i64 0, .int .i64 0, .int .i64 0, .string (⟨#[]⟩ : ByteArray)]) (t := 24) ?hr ?_; (case hd => rfl); (case hg => rfl); (case hr => first | (go_simp; done) | (go_simp; rfl)); intro gb370 hg w40 hbox hb; have n0_ := Aside0.mk (below_step (by repeat (first | (with_reducible first | exact HB.out | apply below_alloc | apply pw_below_drewN | apply below_drew1) | exact HB.out)) hb); have n1_ := Aside0.mk (hbox); have n2_ := Aside0.mk ((by rw [hg]; exact (below_size (by repeat (first | (with_reducible first | exact HB.out | apply below_alloc | apply pw_below_drewN | apply below_drew1) | exact HB.out))) : w.heap.size ≤ gb370)); have n3_ := Aside0.mk ((by rw [hg]; exact (below_size (by repeat (first | (with_reducible first | exact HB.out | apply below_alloc | apply pw_below_drewN | apply below_drew1) | exact HB.out))) : w.heap.size ≤ gb370)); clear HB; have HB := n0_; have BK370 := n1_; have GW370 := n2_; have GE370 := n3_; clear n0_ n1_ n2_ n3_; clear hb hbox hg; have hcz41_0 : w40.cell? ⟨gb370, 0, none⟩ = some (.int .i64 0) := (blk_cell BK370.out 0).trans rfl; have hcz41_1 : w40.cell? ⟨gb370, 1, none⟩ = some (.int .i64 0) := (blk_cell BK370.out 1).trans rfl; have hcz41_2 : w40.cell? ⟨gb370, 2, none⟩ = some (.int .u32 0) := (blk_cell BK370.out 2).trans rfl; have hcz41_3 : w40.cell? ⟨gb370, 3, none⟩ = some (.int .u32 0) := (blk_cell BK370.out 3).trans rfl; have hcz41_4 : w40.cell? ⟨gb370, 4, none⟩ = some (.int .i64 0) := (blk_cell BK370.out 4).trans rfl; have hcz41_5 : w40.cell? ⟨gb370, 5, none⟩ = some (.int .i64 0) := (blk_cell BK370.out 5).trans rfl; have hcz41_6 : w40.cell? ⟨gb370, 6, none⟩ = some (.int .i64 0) := (blk_cell BK370.out 6).trans rfl; have hcz41_7 : w40.cell? ⟨gb370, 7, none⟩ = some (.string (⟨#[]⟩ : ByteArray)) := (blk_cell BK370.out 7).trans rfl; have hfz41_0 := blk_frozen BK370.out 0; have hfz41_1 := blk_frozen BK370.out 1; have hfz41_2 := blk_frozen BK370.out 2; have hfz41_3 := blk_frozen BK370.out 3; have hfz41_4 := blk_frozen BK370.out 4; have hfz41_5 := blk_frozen BK370.out 5; have hfz41_6 := blk_frozen BK370.out 6; have hfz41_7 := blk_frozen BK370.out 7))
                                    go_ret
                                    exact ⟨by first | rfl | (simp [errW_none, errW_some] <;> rfl) | (simp only [← hji6, ← hji9, ← hji28]; first | rfl | (simp [errW_none, errW_some] <;> rfl)) | (simp [*, errW_none, errW_some] <;> rfl), by repeat (first | (with_reducible first | exact HB.out | apply below_alloc | apply pw_below_drewN | apply below_drew1 | refine below_set ?_ GE370.out) | exact HB.out)⟩
                                · rw [if_neg c37] at H
                                  have c37b0 : decide ((ji28) < (wrap64 (20 + ji9))) = false := decide_eq_false c37
                                  clear c37
                                  have c42 : true = true := rfl
                                  · clear c42
                                    have H1 : (if t369 = 0 then (if 0 ≤ (wrap64 ((wrap64 ((ji28) - 20)) - ji9)) then (if (wrap64 ((wrap64 ((ji28) - 20)) - ji9)) ≤ ((a0.extract 0 ((ji6) : Int).toNat).size : Int) then (some (t368.toList == ((a0.extract 0 ((ji6) : Int).toNat).extract 0 ((wrap64 ((wrap64 ((ji28) - 20)) - ji9)) : Int).toNat).toList)) else (none)) else (none)) else (some false)) = some r := by first | (rw [if_pos rfl] at H; exact H) | (rw [if_pos trivial] at H; exact H)
                                    clear H
                                    have H := H1
                                    clear H1
                                    by_cases c43 : t369 = 0
                                    · rw [if_pos c43] at H
                                      have c43b0 : (t369 == 0) = true := beq_iff_eq.mpr c43
                                      have c43b1 : (t369 != 0) = false := bne_eq_false_iff_eq.mpr c43
                                      clear c43
                                      obtain ⟨ji44, hji44⟩ : ∃ j_ : Int, (wrap64 ((wrap64 ((ji28) - 20)) - ji9)) = j_ := ⟨_, rfl⟩
                                      replace H : (if 0 ≤ (ji44) then (if (ji44) ≤ ((a0.extract 0 ((ji6) : Int).toNat).size : Int) then (some (t368.toList == ((a0.extract 0 ((ji6) : Int).toNat).extract 0 ((ji44) : Int).toNat).toList)) else (none)) else (none)) = some r := by first | (rw [hji44] at H; exact H) | (simp only [hji44] at H ⊢; exact H)
                                      (try rw [hji44] at A31)
                                      have hji44w : (IntKind.i64.wrap ((wrap64 ((ji28) - 20)) - ji9)) = ji44 := (i64_w _).trans hji44
                                      by_cases c45 : 0 ≤ (ji44)
                                      · rw [if_pos c45] at H
                                        have c45b0 := eq_true c45
                                        have c45b1 : decide (0 ≤ (ji44)) = true := decide_eq_true c45
                                        clear c45
                                        by_cases c46 : (ji44) ≤ ((a0.extract 0 ((ji6) : Int).toNat).size : Int)
                                        · rw [if_pos c46] at H
                                          have c46b0 := eq_true c46
                                          have c46b1 : decide ((ji44) ≤ ((a0.extract 0 ((ji6) : Int).toNat).size : Int)) = true := decide_eq_true c46
                                          (try (have c46e := c46; (repeat rw [ByteArray.size_extract] at c46e); (repeat rw [Nat.sub_zero] at c46e); have c46et := eq_true c46e; clear c46e))
                                          (try (have c46f := c46; simp [-Int.toNat_le, ByteArray.size_extract] at c46f; have c46ft := eq_true c46f; (try (obtain ⟨xa_, xb_⟩ := c46f; have c46fa := eq_true xa_; have c46fb := eq_true xb_; clear xa_ xb_)); (try clear c46f)))
                                          clear c46
                                          obtain rfl := Option.some.inj H
                                          go_wp2_with (first | ((with_reducible refine gate_callee (f := 20) rfl ?_); refine goesL_ (some 69) rfl rfl Try.func20 (by kernel_rfl) rfl #[.string (t358.extract 0 ((ji28) : Int).toNat)] rfl (by (try simp only [List.map_toArray, List.map_cons, List.map_nil]); first | done | (simp only [hji28]; rfl) | rfl | (simp only [List.length_drop, List.length_take]; rfl)) ?_; (with_reducible refine (tcp_Parse.calls (t358.extract 0 ((ji28) : Int).toNat) t360 t361 t362 t363 t364 t365 t366 t367 t368 t369 _ A31.out).mono ?_); rintro e w47 ⟨rfl, hb⟩; (try clear A31); refine ⟨_, rfl, ?_⟩; have n0_ := Aside0.mk (below_step (by repeat (first | (with_reducible first | exact HB.out | apply below_alloc | apply pw_below_drewN | apply below_drew1) | exact HB.out)) hb); clear HB; have HB := n0_; clear n0_; (try clear hb); (try clear hb2); (try clear hk); (try clear hi)) | ((with_reducible refine gate_dst (N := 14) rfl ?_); (try (refine gate_guard (by rfl) ?_; dsimp only)); refine box_event ?hg (N := 14) ?hd (cs := #[.int .i64 0, .int .i64 0, .int .u32 0, .int .u32 0, .int .i64 0, .int .i64 0, .int .i64 0, .string (⟨#[]⟩ : ByteArray)]) (t := 24) ?hr ?_; (case hd => rfl); (case hg => rfl); (case hr => first | (go_simp; done) | (go_simp; rfl)); intro gb370 hg w48 hbox hb; have n0_ := Aside0.mk (below_step (by repeat (first | (with_reducible first | exact HB.out | apply below_alloc | apply pw_below_drewN | apply below_drew1) | exact HB.out)) hb); have n1_ := Aside0.mk (hbox); have n2_ := Aside0.mk ((by rw [hg]; exact (below_size (by repeat (first | (with_reducible first | exact HB.out | apply below_alloc | apply pw_below_drewN | apply below_drew1) | exact HB.out))) : w.heap.size ≤ gb370)); have n3_ := Aside0.mk ((by rw [hg]; exact (below_size (by repeat (first | (with_reducible first | exact HB.out | apply below_alloc | apply pw_below_drewN | apply below_drew1) | exact HB.out))) : w.heap.size ≤ gb370)); clear HB; have HB := n0_; have BK370 := n1_; have GW370 := n2_; have GE370 := n3_; clear n0_ n1_ n2_ n3_; clear hb hbox hg; have hcz49_0 : w48.cell? ⟨gb370, 0, none⟩ = some (.int .i64 0) := (blk_cell BK370.out 0).trans rfl; have hcz49_1 : w48.cell? ⟨gb370, 1, none⟩ = some (.int .i64 0) := (blk_cell BK370.out 1).trans rfl; have hcz49_2 : w48.cell? ⟨gb370, 2, none⟩ = some (.int .u32 0) := (blk_cell BK370.out 2).trans rfl; have hcz49_3 : w48.cell? ⟨gb370, 3, none⟩ = some (.int .u32 0) := (blk_cell BK370.out 3).trans rfl; have hcz49_4 : w48.cell? ⟨gb370, 4, none⟩ = some (.int .i64 0) := (blk_cell BK370.out 4).trans rfl; have hcz49_5 : w48.cell? ⟨gb370, 5, none⟩ = some (.int .i64 0) := (blk_cell BK370.out 5).trans rfl; have hcz49_6 : w48.cell? ⟨gb370, 6, none⟩ = some (.int .i64 0) := (blk_cell BK370.out 6).trans rfl; have hcz49_7 : w48.cell? ⟨gb370, 7, none⟩ = some (.string (⟨#[]⟩ : ByteArray)) := (blk_cell BK370.out 7).trans rfl; have hfz49_0 := blk_frozen BK370.out 0; have hfz49_1 := blk_frozen BK370.out 1; have hfz49_2 := blk_frozen BK370.out 2; have hfz49_3 := blk_frozen BK370.out 3; have hfz49_4 := blk_frozen BK370.out 4; have hfz49_5 := blk_frozen BK370.out 5; have hfz49_6 := blk_frozen BK370.out 6; have hfz49_7 := blk_frozen BK370.out 7))
                                          go_ret
                                          exact ⟨by first | rfl | (simp [errW_none, errW_some] <;> rfl) | (simp only [← hji6, ← hji9, ← hji28, ← hji44]; first | rfl | (simp [errW_none, errW_some] <;> rfl)) | (simp [*, errW_none, errW_some] <;> rfl), by repeat (first | (with_reducible first | exact HB.out | apply below_alloc | apply pw_below_drewN | apply below_drew1 | refine below_set ?_ GE370.out) | exact HB.out)⟩
                                        · rw [if_neg c46] at H
                                          exact absurd H (by simp)
                                      · rw [if_neg c45] at H
                                        exact absurd H (by simp)
                                    · rw [if_neg c43] at H
                                      have c43b0 : (t369 == 0) = false := beq_eq_false_iff_ne.mpr c43
                                      have c43b1 : (t369 != 0) = true := bne_iff_ne.mpr c43
                                      exact absurd ((Option.some.inj H).trans hr_) (by decide)
                            · rw [if_neg c30] at H
                              exact absurd H (by simp)
                          · rw [if_neg c29] at H
                            exact absurd H (by simp)
          · rw [if_neg c11] at H
            exact absurd H (by simp)
        · rw [if_neg c10] at H
          exact absurd H (by simp)
      · rw [if_neg c8] at H
        exact absurd H (by simp)
    · rw [if_neg c7] at H
      exact absurd H (by simp)
  · replace c5 := Bool.eq_false_iff.mpr c5
    subst c5
    have H1 : (some false) = some r := by rw [if_neg (show ¬ (false = true) by decide)] at H; exact H
    clear H
    have H := H1
    clear H1
    exact absurd ((Option.some.inj H).trans hr_) (by decide)

/-- THE ONE PURE STATEMENT of weighbridgelaw05_TcpCut: yours. -/
def weighbridgelaw05_TcpCut.Pure : Prop := ∀ (a0 : ByteArray) (a1 : Int) (a2 : Int), a0.size ≤ 140737488351232 → (Lit.int .u8 a1).wf = true → (Lit.int .u8 a2).wf = true → ∃ k, weighbridgelaw05_TcpCut.f k a0 a1 a2 = some true
theorem weighbridgelaw05_TcpCut.walk (P : weighbridgelaw05_TcpCut.Pure) (a0 : ByteArray) (a1 : Int) (a2 : Int) (w : World) (w0 : a0.size ≤ 140737488351232) (w1 : (Lit.int .u8 a1).wf = true) (w2 : (Lit.int .u8 a2).wf = true) :
    Calls Try.prog 8 #[.string a0, .int .u8 a1, .int .u8 a2] w fun e w' => e = .returned (.bool true) ∧ Below w.heap.size w w' := by
  obtain ⟨k, h⟩ := P a0 a1 a2 w0 w1 w2
  refine (weighbridgelaw05_TcpCut.calls k a0 a1 a2 true w h rfl).mono ?_
  rintro e w' ⟨rfl, hd⟩
  exact ⟨rfl, hd⟩
def weighbridgelaw05_TcpCut.PureU : Prop := ∀ (a0 : ByteArray) (a1 : Int) (a2 : Int), a0.size ≤ 1048576 → (Lit.int .u8 a1).wf = true → (Lit.int .u8 a2).wf = true → ∃ k, weighbridgelaw05_TcpCut.f k a0 a1 a2 = some true
theorem weighbridgelaw05_TcpCut.walkU (P : weighbridgelaw05_TcpCut.PureU) (a0 : ByteArray) (a1 : Int) (a2 : Int) (w : World) (w0 : a0.size ≤ 1048576) (w1 : (Lit.int .u8 a1).wf = true) (w2 : (Lit.int .u8 a2).wf = true) :
    Calls Try.prog 8 #[.string a0, .int .u8 a1, .int .u8 a2] w fun e w' => e = .returned (.bool true) ∧ Below w.heap.size w w' := by
  obtain ⟨k, h⟩ := P a0 a1 a2 w0 w1 w2
  refine (weighbridgelaw05_TcpCut.calls k a0 a1 a2 true w h rfl).mono ?_
  rintro e w' ⟨rfl, hd⟩
  exact ⟨rfl, hd⟩

end Go.Proofs.Ytlhpfoibohiggaa.Pr
