-- Written by a program of the session (wip/tools) out of the translation, over the kit's print; with pieces of the session's own.
import Derived.Test.YtkdmdnihkhhpiaaPr0
import Derived.Test.YtkdmdnihkhhpiaaPr1
import Derived.Test.YtkdmdnihkhhpiaaPr3
namespace Go.Proofs.Ytkdmdnihkhhpiaa.Pr
open Go.RowKit Go.Proofs.YtkdmdnihkhhpiaaW.PrintWords Go.Proofs.YtkdmdnihkhhpiaaW.PrintLast Go.Proofs.YtkdmdnihkhhpiaaW.PrintMore
attribute [local go_sem] max2_int min2_int max_two min_two max_three min_three max_four min_four   -- for this text's walks alone
set_option linter.unusedVariables false
set_option linter.unusedSimpArgs false
open Go.Proofs.Ytkdmdnihkhhpiaa.Sp
/-! ### weighbridgelaw03_CksumOrder: function 5 -/
def weighbridgelaw03_CksumOrder.l0 : Nat → List Int → Int → Int → Bool → List Int → Int → Option (Bool)
 | 0, _, _, _, _, _, _ => none
 | k + 1, x0, x1, x2, x7, x8, x9 => if x9 ≥ 0 then (if 0 ≤ x9 then (if x9 < (x0.length : Int) then (if x8.length < 70368744177664 then (weighbridgelaw03_CksumOrder.l0 k x0 x1 x2 x7 (x8 ++ [rd x0 x9]) (wrap64 (x9 - 1))) else (none)) else (none)) else (none)) else ((cksum_Join.f x0).bind fun t155 => ((cksum_Join.f x8).bind fun t156 => (if t155 = t156 then (if (x0.length : Int) = 0 then (if x7 = true then ((cksum_Join.f ([] : List Int)).bind fun t157 => (some (t157 == 0))) else (some false)) else (if x1 < 0 then (if ([] : List Int).length + x0.length < 70368744177664 then ((some (([] : List Int) ++ x0 : List Int)).bind fun y158 => (if 0 ≤ (Int.tmod (wrap64 (-(wrap64 (x1 + 1)))) (x0.length : Int)) then (if (Int.tmod (wrap64 (-(wrap64 (x1 + 1)))) (x0.length : Int)) < (y158.length : Int) then (if 0 ≤ (Int.tmod x2 16) then (if x7 = true then ((cksum_Join.f (y158.set ((Int.tmod (wrap64 (-(wrap64 (x1 + 1)))) (x0.length : Int)) : Int).toNat (Go.bits .xor .u16 (rd y158 (Int.tmod (wrap64 (-(wrap64 (x1 + 1)))) (x0.length : Int))) (shl .u16 1 (Int.tmod x2 16))))).bind fun t163 => ((cksum_Join.f x0).bind fun t164 => (some (t163 != t164)))) else (some false)) else (none)) else (none)) else (none))) else (none)) else (if ([] : List Int).length + x0.length < 70368744177664 then ((some (([] : List Int) ++ x0 : List Int)).bind fun y165 => (if 0 ≤ (Int.tmod x1 (x0.length : Int)) then (if (Int.tmod x1 (x0.length : Int)) < (y165.length : Int) then (if 0 ≤ (Int.tmod x2 16) then (if x7 = true then ((cksum_Join.f (y165.set ((Int.tmod x1 (x0.length : Int)) : Int).toNat (Go.bits .xor .u16 (rd y165 (Int.tmod x1 (x0.length : Int))) (shl .u16 1 (Int.tmod x2 16))))).bind fun t170 => ((cksum_Join.f x0).bind fun t171 => (some (t170 != t171)))) else (some false)) else (none)) else (none)) else (none))) else (none)))) else (some false))))
def weighbridgelaw03_CksumOrder.f (k : Nat) (l0 : List Int) (a1 : Int) (a2 : Int) : Option (Bool) := (weighbridgelaw03_examples.f).bind fun t149 => (if t149 = true then (if 0 ≤ (mn (l0.length : Int) 60) then (if (mn (l0.length : Int) 60) ≤ (l0.length : Int) then (weighbridgelaw03_CksumOrder.l0 k (l0.take ((mn (l0.length : Int) 60) : Int).toNat) a1 a2 t149 ([] : List Int) (wrap64 (((l0.take ((mn (l0.length : Int) 60) : Int).toNat).length : Int) - 1))) else (none)) else (none)) else (some false))
theorem weighbridgelaw03_CksumOrder.mono_l : ∀ k, (∀ y0 y1 y2 y3 y4 y5, LeO (weighbridgelaw03_CksumOrder.l0 k y0 y1 y2 y3 y4 y5) (weighbridgelaw03_CksumOrder.l0 (k + 1) y0 y1 y2 y3 y4 y5))
 | 0 => fun _ _ _ _ _ _ r h => by simp [weighbridgelaw03_CksumOrder.l0] at h
 | k + 1 => by
  have ih0 := weighbridgelaw03_CksumOrder.mono_l k
  ·intro y0 y1 y2 y3 y4 y5
   unfold weighbridgelaw03_CksumOrder.l0
   repeat' first
   | (with_reducible exact ih0 _ _ _ _ _ _)
   | (with_reducible exact LeO.refl _)
   | (with_reducible exact LeO.none _)
   | (with_reducible refine LeO.ite ?_ ?_)
   | (with_reducible refine LeO.bind ?_ (fun _ => ?_))
   | exact ih0 _ _ _ _ _ _
   | exact LeO.none _
   | refine LeO.ite ?_ ?_
   | refine LeO.bind ?_ (fun _ => ?_)
theorem weighbridgelaw03_CksumOrder.mono : ∀ a0 a1 a2 k, LeO (weighbridgelaw03_CksumOrder.f k a0 a1 a2) (weighbridgelaw03_CksumOrder.f (k + 1) a0 a1 a2) := by
 intro a0 a1 a2 k
 have ih0 := weighbridgelaw03_CksumOrder.mono_l k
 unfold weighbridgelaw03_CksumOrder.f
 repeat' first
   | (with_reducible exact ih0 _ _ _ _ _ _)
   | (with_reducible exact LeO.refl _)
   | (with_reducible exact LeO.none _)
   | (with_reducible refine LeO.ite ?_ ?_)
   | (with_reducible refine LeO.bind ?_ (fun _ => ?_))
   | exact ih0 _ _ _ _ _ _
   | exact LeO.none _
   | refine LeO.ite ?_ ?_
   | refine LeO.bind ?_ (fun _ => ?_)
def weighbridgelaw03_CksumOrder.T17 : Bool × List (List Nat × List Nat) := (true, [([], []), ([], []), ([], []), ([2], [2]), ([1, 3], [1, 3]), ([], []), ([], []), ([], []), ([7], [7]), ([6, 8], [6, 8]), ([5, 9], [5, 9]), ([10], [10]), ([], []), ([12], [12]), ([13], [13]), ([11, 14], [11, 14]), ([0, 4, 0, 1, 2, 3, 4, 5, 6, 7, 8, 9, 10, 11, 12, 13, 14, 15], [0, 4]), ([16, 15, 0, 1, 2, 3, 4, 5, 6, 7, 8, 9, 10, 11, 12, 13, 14, 15], [15, 16])])
def weighbridgelaw03_CksumOrder.B17 : List Nat := [0, 0, 0, 4, 14, 0, 0, 0, 128, 448, 992, 2016, 0, 4096, 12288, 32736, 65535, 131071]
theorem weighbridgelaw03_CksumOrder.tab17 : rtab .any (opsOf Try.f5 17) = weighbridgelaw03_CksumOrder.T17 := by kernel_rfl
theorem weighbridgelaw03_CksumOrder.bits17 : waitsOk weighbridgelaw03_CksumOrder.T17.2 weighbridgelaw03_CksumOrder.B17 = true := by kernel_rfl
set_option maxHeartbeats 8000000 in
set_option maxRecDepth 100000 in
theorem weighbridgelaw03_CksumOrder.calls (k : Nat) (A0 : Option Addr) (c0 : Nat) (l0 : List Int) (a1 : Int) (a2 : Int) (r : Bool) (w : World) (hr0 : Kd.C (Kd.int .u16) w A0 l0.length l0) (hc0 : l0.length ≤ c0) (h : weighbridgelaw03_CksumOrder.f k l0 a1 a2 = some r) (hr_ : r = true) :
  Calls Try.prog 5 #[.slice A0 l0.length c0, .int .i64 a1, .int .u8 a2] w fun e w' => e = .returned (.bool r) ∧ Below w.heap.size w w' := by
 have HR0 := Aside0.mk hr0
 have HC0 := Aside0.mk hc0
 clear hr0 hc0
 have HB := Aside0.mk (Below.refl w.heap.size w)
 have H : ((weighbridgelaw03_examples.f).bind fun t149 => (if t149 = true then (if 0 ≤ (mn (l0.length : Int) 60) then (if (mn (l0.length : Int) 60) ≤ (l0.length : Int) then (weighbridgelaw03_CksumOrder.l0 k (l0.take ((mn (l0.length : Int) 60) : Int).toNat) a1 a2 t149 ([] : List Int) (wrap64 (((l0.take ((mn (l0.length : Int) 60) : Int).toNat).length : Int) - 1))) else (none)) else (none)) else (some false))) = some r := h
 clear h
 replace H := Option.bind_eq_some_iff.mp H
 obtain ⟨t149, A40, H⟩ := H
 (try set_option simprocs false in dsimp only at H)
 have A4 := Aside0.mk A40
 clear A40
 by_cases c5 : t149 = true
 rotate_left
 ·replace c5 := Bool.eq_false_iff.mpr c5
  subst c5
  have H1 : (some false) = some r := by rw [if_neg (show ¬ (false = true) by decide)] at H; exact H
  clear H
  have H := H1
  clear H1
  exact absurd ((Option.some.inj H).trans hr_) (by decide)
 subst c5
 first | rw [if_pos rfl] at H | rw [if_pos trivial] at H
 obtain ⟨ji6, hji6⟩ : ∃ j_ : Int, (mn (l0.length : Int) 60) = j_ := ⟨_, rfl⟩
 replace H : (if 0 ≤ (ji6) then (if (ji6) ≤ (l0.length : Int) then (weighbridgelaw03_CksumOrder.l0 k (l0.take ((ji6) : Int).toNat) a1 a2 true ([] : List Int) (wrap64 (((l0.take ((ji6) : Int).toNat).length : Int) - 1))) else (none)) else (none)) = some r := by first | (rw [hji6] at H; exact H) | (simp only [hji6] at H ⊢; exact H)
 (try rw [hji6] at A4)
 (try (have hji6h : ji6 ≤ 60 := by (rw [← hji6]; unfold mn; (repeat' split) <;> omega)))
 (try (have hji6g : ji6 ≤ 64 := by omega))
 (try (have hji6l : 0 ≤ ji6 := by (rw [← hji6]; unfold mn; (repeat' split) <;> omega)))
 (try (have hji6m : 0 ≤ ji6 := by omega))
 have hji6_ : (if 60 < (l0.length : Int) then 60 else (l0.length : Int)) = ji6 := hji6
 by_cases c7 : 0 ≤ (ji6)
 rotate_left
 ·rw [if_neg c7] at H
  exact absurd H (by simp)
 rw [if_pos c7] at H
 have c7b0 := eq_true c7
 have c7b1 : decide (0 ≤ (ji6)) = true := decide_eq_true c7
 clear c7
 by_cases c8 : (ji6) ≤ (l0.length : Int)
 rotate_left
 ·rw [if_neg c8] at H
  exact absurd H (by simp)
 rw [if_pos c8] at H
 have c8b0 := eq_true c8
 have c8b1 : decide ((ji6) ≤ (l0.length : Int)) = true := decide_eq_true c8
 clear c8
 have H' := Aside0.mk H
 clear H
 go_enter Try.func5, Try.ntmps5
 go_wp2_with (first | ((with_reducible refine gate_callee (f := 14) rfl ?_); refine goesL_ (some 11) rfl rfl Try.func14 (by kernel_rfl) rfl #[] rfl AG ?_; (with_reducible refine (weighbridgelaw03_examples.calls  true _ A4.out).mono ?_); rintro e w9 ⟨rfl, hb⟩; (try clear A4); refine ⟨_, rfl, ?_⟩; have n0_ := Aside0.mk (below_step (BW HB) hb); clear HB; have HB := n0_; clear n0_; (try clear hb); obtain ⟨i010, hi010, _, hsz10, _⟩ := info_parts info25; obtain ⟨hcut10, hA10, hC10⟩ := print_take_of (P := Try.prog) (Value.int .u16) 0 23 25 .i64 Try.underlying23 hi010 hsz10 A0 c0 l0 (ji6) (of_decide_eq_true (by first | (with_reducible assumption) | assumption)) (of_decide_eq_true (by first | (with_reducible assumption) | assumption)) HC0.out; have HR150 := Aside0.mk (Kd.C_of_reads (h1 := fun _ => rfl) (hA10 _ (Kd.reads_of_C HR0.out))); have HC150 := Aside0.mk hC10; clear hA10 hC10 hi010 hsz10))
 clear hcut10
 obtain ⟨L, hL⟩ : ∃ L : List Int, l0.take ji6.toNat = L := ⟨_, rfl⟩
 have hLn : L.length = ji6.toNat := by rw [← hL, List.length_take]; have := of_eq_true c8b0; omega
 rw [hL] at H' HR150 HC150
 rw [← hLn]
 have hLm : max ji6 0 = (L.length : Int) := by rw [hLn]; omega
 rw [hLm]
 have hL60 : L.length ≤ 60 := by rw [hLn]; omega
 have hLH := Lib.hid hL60
 clear hL60 hLm hLn hL c7b0 c7b1 c8b0 c8b1 hji6_ hji6h hji6g hji6l hji6m hji6
 go_loopg [8, 9] k (fun kq v8 v9 w' => ∃ (x8_1 : List Int) (x9_1 : Int), v9 = .int .i64 x9_1 ∧ Aside0 (weighbridgelaw03_CksumOrder.l0 kq L a1 a2 true x8_1 x9_1 = some r) ∧ Aside0 (kq ≤ k) ∧ Aside0 (Kd.R (Kd.int .u16) 25 w' w.heap.size (fun _ => True) v8 x8_1) ∧ Aside0 (Below w.heap.size w w'))
 case atStart => exact ⟨(([] : List Int)), (wrap64 ((L.length : Int) - 1)), (by first | rfl | (congr 1; unfold wrap64; have := hLH.out; omega) | (simp; done) | (simp only [← hji6] <;> (first | rfl | simp)) | (simp [*]; done)), H', ⟨Nat.le_refl _⟩, ⟨by first | exact Kd.R_nil _ _ _ _ _ | exact Kd.N_nil _ _ _ _ _ | exact Kd.V_nil _ _ _ _ _ | exact Kd.Q_nil _ _ _ _ _ | exact Kd.S_nil _ _ _ _ _⟩, ⟨BW HB⟩⟩
 case round =>
  clear H'
  try clear c1
  try clear p2
  try clear c5
  try clear p6
  try clear c7
  try clear c7b0
  try clear c7b1
  try clear c8
  try clear c8b0
  try clear c8b1
  obtain ⟨x8_1, x9_1, rfl, HA, HK1, HO_8, HB⟩ := hrel
  cases gk with
  | zero => exact absurd HA.out (by simp [weighbridgelaw03_CksumOrder.l0])
  | succ k1 =>
   have H := HA.out
   clear HA
   simp only [weighbridgelaw03_CksumOrder.l0] at H
   by_cases c11 : x9_1 ≥ 0
   ·rw [if_pos c11] at H
    have c11b0 : decide (0 ≤ x9_1) = true := decide_eq_true c11
    clear c11
    by_cases c12 : 0 ≤ x9_1
    rotate_left
    ·rw [if_neg c12] at H
     exact absurd H (by simp)
    rw [if_pos c12] at H
    have c12b0 : decide (0 ≤ x9_1) = true := decide_eq_true c12
    clear c12
    by_cases c13 : x9_1 < (L.length : Int)
    rotate_left
    ·rw [if_neg c13] at H
     exact absurd H (by simp)
    rw [if_pos c13] at H
    have c13b0 : decide (x9_1 < (L.length : Int)) = true := decide_eq_true c13
    clear c13
    by_cases c14 : x8_1.length < 70368744177664
    ·rw [if_pos c14] at H
     have LMc14 := Aside0.mk c14
     clear c14
     obtain ⟨y152, hy152⟩ : ∃ y_ : List Int, y_ = (x8_1 ++ [rd L x9_1]) := ⟨_, rfl⟩
     replace H : (weighbridgelaw03_CksumOrder.l0 k1 L a1 a2 true y152 (wrap64 (x9_1 - 1))) = some r := by first | (rw [hy152]; with_reducible exact H) | (have H2_ := (Option.bind_some _ _).symm.trans H; rw [hy152]; with_reducible exact H2_) | (have H2_ := (Option.bind_some _ _).symm.trans H; with_reducible exact H2_) | with_reducible exact H | (rw [hy152]; exact H) | exact H
     have Ny152 := Aside0.mk hy152
     clear hy152
     have H' := Aside0.mk H
     clear H
     have p151 : 0 ≤ (x9_1 : Int) := of_decide_eq_true (by first | (with_reducible assumption) | assumption)
     have q151 : x9_1 < (L.length : Int) := of_decide_eq_true (by first | (with_reducible assumption) | assumption)
     obtain ⟨ad151, e151, hx151_0⟩ := Kd.at_int HR150.out x9_1 p151 q151
     cases e151
     replace hx151_0 := (HB.out.cell (World.block_lt_of_cell? w _ hx151_0)).trans hx151_0
     replace p151 := eq_true p151
     replace q151 := eq_true q151
     go_wp2_with (first | ((with_reducible refine gate_builtin (b := .append) (xs := #[.tmp 26, .tmp 31]) rfl ?_); at_builtin; refine Kd.R_append (Kd.int .u16) (w0 := w) w.heap.size rfl (.tmp 26) (.tmp 31) 23 25 (.int .u16 0) 2 rfl Try.underlying23 info25 rfl (by decide) (by omega) u8 x8_1 (rd L x9_1) [.int .u16 (rd L x9_1)] (fun _ => True) (fun _ => False) rfl rfl ?aP (fun _ hk => hk.elim) ?aF ?aO ?aB ?aS ?aL ?_; (case aP => exact rfl); (case aB => exact (BW HB)); (case aF => exact (fun _ _ => trivial)); (case aO => exact (by (with_reducible repeat (first | apply Kd.R_alloc | apply Kd.R_drewN | apply Kd.R_drew)); exact HO_8.out)); (case aS => exact (below_size (BW HB))); (case aL => have := LMc14.out; omega); intro v153 w15 ho hb hg hat; rw [← Ny152.out] at ho; have n0_ := Aside0.mk (hb); have n1_ := Aside0.mk (ho); clear HB; clear HO_8; have HB := n0_; have HO154 := n1_; clear n0_ n1_; clear ho hb hg hat))
     go_roundg k1
     case measure => have := HK1.out; omega
     case rel => exact ⟨(y152), (wrap64 (x9_1 - 1)), (by first | rfl | (simp; done) | (congr 2; simp only [ByteArray.size_extract, ByteArray.size_append]; (try have := of_eq_true c7b0); (try have := of_eq_true c8b0); (try unfold wrap64); omega) | (simp only [ByteArray.size_extract, ByteArray.size_append, Nat.sub_zero]; done) | (congr 1; simp only [ByteArray.size_extract, ByteArray.size_append, Nat.sub_zero]; (try have := of_eq_true c7b0); (try have := of_eq_true c8b0); omega) | (simp [*]; done)), H', ⟨by have := HK1.out; omega⟩, ⟨by (with_reducible repeat (first | apply Kd.R_alloc | apply Kd.R_drewN | apply Kd.R_drew)); exact HO154.out⟩, ⟨BW HB⟩⟩
    rw [if_neg c14] at H
    exact absurd H (by simp)
   rw [if_neg c11] at H
   have c11b0 : decide (0 ≤ x9_1) = false := decide_eq_false c11
   clear c11
   replace H := Option.bind_eq_some_iff.mp H
   obtain ⟨t155, A160, H⟩ := H
   (try set_option simprocs false in dsimp only at H)
   have A16 := Aside0.mk A160
   clear A160
   replace H := Option.bind_eq_some_iff.mp H
   obtain ⟨t156, A170, H⟩ := H
   (try set_option simprocs false in dsimp only at H)
   have A17 := Aside0.mk A170
   clear A170
   by_cases c18 : t155 = t156
   rotate_left
   ·rw [if_neg c18] at H
    have c18b0 : (t155 == t156) = false := beq_eq_false_iff_ne.mpr c18
    have c18b1 : (t155 != t156) = true := bne_iff_ne.mpr c18
    exact absurd ((Option.some.inj H).trans hr_) (by decide)
   rw [if_pos c18] at H
   have c18b0 : (t155 == t156) = true := beq_iff_eq.mpr c18
   have c18b1 : (t155 != t156) = false := bne_eq_false_iff_eq.mpr c18
   clear c18
   by_cases c19 : (L.length : Int) = 0
   ·rw [if_pos c19] at H
    have c19b0 : ((L.length : Int) == 0) = true := beq_iff_eq.mpr c19
    have c19b1 : ((L.length : Int) != 0) = false := bne_eq_false_iff_eq.mpr c19
    clear c19
    have c20 : true = true := rfl
    clear c20
    first | rw [if_pos rfl] at H | rw [if_pos trivial] at H
    replace H := Option.bind_eq_some_iff.mp H
    obtain ⟨t157, A210, H⟩ := H
    (try set_option simprocs false in dsimp only at H)
    have A21 := Aside0.mk A210
    clear A210
    obtain rfl := Option.some.inj H
    go_wp2_with (first | ((with_reducible refine gate_callee (f := 21) rfl ?_); refine goesL_ (some 34) rfl rfl Try.func21 (by kernel_rfl) rfl #[.slice A0 L.length c0] rfl (by (try simp only [List.map_toArray, List.map_cons, List.map_nil]); first | done | (rw [show L.length = (ji6).toNat from (by rw [List.length_take]; have h_ : ((ji6) : Int) ≤ (l0.length : Int) := of_decide_eq_true (by first | (with_reducible assumption) | assumption); omega)] <;> rfl) | (simp only [hji6]; rfl) | rfl | (simp only [List.length_drop, List.length_take]; rfl)) ?_; (with_reducible refine (cksum_Join.calls _ _ L t155 _ ?side1 ?side2 A16.out).mono ?_); (case side1 => repeat (first | exact (Kd.C_below HR150.out HB.out) | (with_reducible refine Kd.C_alloc ?_ _) | (with_reducible refine Kd.C_drewN ?_ _) | (with_reducible refine Kd.C_drew ?_))); (case side2 => exact HC150.out); rintro e w' ⟨rfl, ⟨nd, rfl⟩⟩; refine ⟨_, rfl, ?_⟩; obtain ⟨Ao22, co22, eo22⟩ := Kd.R_slice HO_8.out; subst eo22) | ((with_reducible refine gate_callee (f := 21) rfl ?_); refine goesL_ (some 36) rfl rfl Try.func21 (by kernel_rfl) rfl #[.slice Ao22 x8_1.length co22] rfl AG ?_; (with_reducible refine (cksum_Join.calls _ _ x8_1 t156 _ ?side1 ?side2 A17.out).mono ?_); (case side1 => repeat (first | exact (Kd.R_reads' HO_8.out).2.2 | (with_reducible refine Kd.C_alloc ?_ _) | (with_reducible refine Kd.C_drewN ?_ _) | (with_reducible refine Kd.C_drew ?_))); (case side2 => exact (Kd.R_reads' HO_8.out).2.1); rintro e w' ⟨rfl, ⟨nd, rfl⟩⟩; refine ⟨_, rfl, ?_⟩) | (go_at_call 21; (refine (cksum_Join.calls _ _ ([] : List Int) t157 _ ?side1 ?side2 A21.out).mono ?_); (case side1 => exact Kd.C_nil _ _); (case side2 => exact Nat.le_refl _); rintro e w' ⟨rfl, ⟨nd, rfl⟩⟩))
    go_ret
    exact ⟨by first | rfl | (simp [errW_none, errW_some] <;> rfl) | (simp only [← hji6]; first | rfl | (simp [errW_none, errW_some] <;> rfl)) | (simp [*, errW_none, errW_some] <;> rfl), BW HB⟩
   rw [if_neg c19] at H
   have c19b0 : ((L.length : Int) == 0) = false := beq_eq_false_iff_ne.mpr c19
   have c19b1 : ((L.length : Int) != 0) = true := bne_iff_ne.mpr c19
   have c19b2 : ¬ (L = []) := fun h_ => c19 (by rw [h_]; rfl)
   by_cases c23 : a1 < 0
   ·rw [if_pos c23] at H
    have c23b0 : decide (a1 < 0) = true := decide_eq_true c23
    clear c23
    by_cases c24 : ([] : List Int).length + L.length < 70368744177664
    rotate_left
    ·rw [if_neg c24] at H
     exact absurd H (by simp)
    rw [if_pos c24] at H
    have LMc24 := Aside0.mk c24
    clear c24
    obtain ⟨y158, hy158⟩ : ∃ y_ : List Int, y_ = (([] : List Int) ++ L) := ⟨_, rfl⟩
    replace H : (if 0 ≤ (Int.tmod (wrap64 (-(wrap64 (a1 + 1)))) (L.length : Int)) then (if (Int.tmod (wrap64 (-(wrap64 (a1 + 1)))) (L.length : Int)) < (y158.length : Int) then (if 0 ≤ (Int.tmod a2 16) then (if true = true then ((cksum_Join.f (y158.set ((Int.tmod (wrap64 (-(wrap64 (a1 + 1)))) (L.length : Int)) : Int).toNat (Go.bits .xor .u16 (rd y158 (Int.tmod (wrap64 (-(wrap64 (a1 + 1)))) (L.length : Int))) (shl .u16 1 (Int.tmod a2 16))))).bind fun t163 => ((cksum_Join.f L).bind fun t164 => (some (t163 != t164)))) else (some false)) else (none)) else (none)) else (none)) = some r := by first | (rw [hy158]; with_reducible exact H) | (have H2_ := (Option.bind_some _ _).symm.trans H; rw [hy158]; with_reducible exact H2_) | (have H2_ := (Option.bind_some _ _).symm.trans H; with_reducible exact H2_) | with_reducible exact H | (rw [hy158]; exact H) | exact H
    have Ny158 := Aside0.mk hy158
    clear hy158
    obtain ⟨ji25, hji25⟩ : ∃ j_ : Int, (Int.tmod (wrap64 (-(wrap64 (a1 + 1)))) (L.length : Int)) = j_ := ⟨_, rfl⟩
    replace H : (if 0 ≤ (ji25) then (if (ji25) < (y158.length : Int) then (if 0 ≤ (Int.tmod a2 16) then (if true = true then ((cksum_Join.f (y158.set ((ji25) : Int).toNat (Go.bits .xor .u16 (rd y158 (ji25)) (shl .u16 1 (Int.tmod a2 16))))).bind fun t163 => ((cksum_Join.f L).bind fun t164 => (some (t163 != t164)))) else (some false)) else (none)) else (none)) else (none)) = some r := by first | (rw [hji25] at H; exact H) | (simp only [hji25] at H ⊢; exact H)
    (try rw [hji25] at A16)
    (try rw [hji25] at A17)
    by_cases c26 : 0 ≤ (ji25)
    rotate_left
    ·rw [if_neg c26] at H
     exact absurd H (by simp)
    rw [if_pos c26] at H
    have c26b0 : decide (0 ≤ (ji25)) = true := decide_eq_true c26
    clear c26
    by_cases c27 : (ji25) < (y158.length : Int)
    rotate_left
    ·rw [if_neg c27] at H
     exact absurd H (by simp)
    rw [if_pos c27] at H
    have c27b0 : decide ((ji25) < (y158.length : Int)) = true := decide_eq_true c27
    clear c27
    obtain ⟨ji28, hji28⟩ : ∃ j_ : Int, (Int.tmod a2 16) = j_ := ⟨_, rfl⟩
    replace H : (if 0 ≤ (ji28) then (if true = true then ((cksum_Join.f (y158.set ((ji25) : Int).toNat (Go.bits .xor .u16 (rd y158 (ji25)) (shl .u16 1 (ji28))))).bind fun t163 => ((cksum_Join.f L).bind fun t164 => (some (t163 != t164)))) else (some false)) else (none)) = some r := by first | (rw [hji28] at H; exact H) | (simp only [hji28] at H ⊢; exact H)
    (try rw [hji28] at A16)
    (try rw [hji28] at A17)
    by_cases c29 : 0 ≤ (ji28)
    rotate_left
    ·rw [if_neg c29] at H
     exact absurd H (by simp)
    rw [if_pos c29] at H
    have c29b0 := eq_true c29
    have c29b1 : decide (0 ≤ (ji28)) = true := decide_eq_true c29
    clear c29
    obtain ⟨ji30, hji30⟩ : ∃ j_ : Int, (shl .u16 1 (ji28)) = j_ := ⟨_, rfl⟩
    replace H : (if true = true then ((cksum_Join.f (y158.set ((ji25) : Int).toNat (Go.bits .xor .u16 (rd y158 (ji25)) (ji30)))).bind fun t163 => ((cksum_Join.f L).bind fun t164 => (some (t163 != t164)))) else (some false)) = some r := by first | (rw [hji30] at H; exact H) | (simp only [hji30] at H ⊢; exact H)
    (try rw [hji30] at A16)
    (try rw [hji30] at A17)
    have hji30_ : (IntKind.u16.wrap (1 * 2 ^ min (ji28).toNat 16)) = ji30 := hji30
    have hji30z : (ji28) ≤ 16 → (IntKind.u16.wrap (1 * 2 ^ (ji28).toNat)) = ji30 := shl_small hji30
    have hji30u : (IntKind.u16.wrap (2 ^ min (ji28).toNat 16)) = ji30 := by have h_ := hji30_; rw [Int.one_mul] at h_; exact h_
    have hji30v : (ji28) ≤ 16 → (IntKind.u16.wrap (2 ^ (ji28).toNat)) = ji30 := fun hle_ => by have h_ := hji30z hle_; rw [Int.one_mul] at h_; exact h_
    obtain ⟨y162, hy162⟩ : ∃ y_ : List Int, y_ = (y158.set ((ji25) : Int).toNat (Go.bits .xor .u16 (rd y158 (ji25)) (ji30))) := ⟨_, rfl⟩
    replace H : (if true = true then ((cksum_Join.f y162).bind fun t163 => ((cksum_Join.f L).bind fun t164 => (some (t163 != t164)))) else (some false)) = some r := by first | (rw [hy162]; with_reducible exact H) | (have H2_ := (Option.bind_some _ _).symm.trans H; rw [hy162]; with_reducible exact H2_) | (have H2_ := (Option.bind_some _ _).symm.trans H; with_reducible exact H2_) | with_reducible exact H | (rw [hy162]; exact H) | exact H
    have Ny162 := Aside0.mk hy162
    clear hy162
    have c32 : true = true := rfl
    clear c32
    first | rw [if_pos rfl] at H | rw [if_pos trivial] at H
    replace H := Option.bind_eq_some_iff.mp H
    obtain ⟨t163, A330, H⟩ := H
    (try set_option simprocs false in dsimp only at H)
    have A33 := Aside0.mk A330
    clear A330
    replace H := Option.bind_eq_some_iff.mp H
    obtain ⟨t164, A340, H⟩ := H
    (try set_option simprocs false in dsimp only at H)
    have A34 := Aside0.mk A340
    clear A340
    obtain rfl := Option.some.inj H
    try go_wp2_with (first | ((with_reducible refine gate_callee (f := 21) rfl ?_); refine goesL_ (some 34) rfl rfl Try.func21 (by kernel_rfl) rfl #[.slice A0 L.length c0] rfl (by (try simp only [List.map_toArray, List.map_cons, List.map_nil]); first | done | (rw [show L.length = (ji6).toNat from (by rw [List.length_take]; have h_ : ((ji6) : Int) ≤ (l0.length : Int) := of_decide_eq_true (by first | (with_reducible assumption) | assumption); omega)] <;> rfl) | (simp only [hji6]; rfl) | rfl | (simp only [List.length_drop, List.length_take]; rfl)) ?_; (with_reducible refine (cksum_Join.calls _ _ L t155 _ ?side1 ?side2 A16.out).mono ?_); (case side1 => repeat (first | exact (Kd.C_below HR150.out HB.out) | (with_reducible refine Kd.C_alloc ?_ _) | (with_reducible refine Kd.C_drewN ?_ _) | (with_reducible refine Kd.C_drew ?_))); (case side2 => exact HC150.out); rintro e w' ⟨rfl, ⟨nd, rfl⟩⟩; refine ⟨_, rfl, ?_⟩; (try (rw [drewN_self wr]; generalize hq_ : World.drewN wr _ = wr; have n0_ : Aside0 (Kd.R (Kd.int .u16) 25 wr w.heap.size (fun _ => True) u8 x8_1) := ⟨by rw [← hq_]; exact (by (with_reducible repeat (first | apply Kd.R_alloc | apply Kd.R_drewN | apply Kd.R_drew)); exact HO_8.out)⟩; have n1_ : Aside0 (Below w.heap.size w wr) := ⟨by rw [← hq_]; exact (BW HB)⟩; clear HO_8 HB hq_; have HO_8 := n0_; have HB := n1_; clear n0_ n1_)); obtain ⟨Ao35, co35, eo35⟩ := Kd.R_slice HO_8.out; subst eo35) | ((with_reducible refine gate_callee (f := 21) rfl ?_); refine goesL_ (some 36) rfl rfl Try.func21 (by kernel_rfl) rfl #[.slice Ao35 x8_1.length co35] rfl AG ?_; (with_reducible refine (cksum_Join.calls _ _ x8_1 t156 _ ?side1 ?side2 A17.out).mono ?_); (case side1 => repeat (first | exact (Kd.R_reads' HO_8.out).2.2 | (with_reducible refine Kd.C_alloc ?_ _) | (with_reducible refine Kd.C_drewN ?_ _) | (with_reducible refine Kd.C_drew ?_))); (case side2 => exact (Kd.R_reads' HO_8.out).2.1); rintro e w' ⟨rfl, ⟨nd, rfl⟩⟩; refine ⟨_, rfl, ?_⟩; (try (rw [drewN_self wr]; generalize hq_ : World.drewN wr _ = wr; have n0_ : Aside0 (Kd.R (Kd.int .u16) 25 wr w.heap.size (fun _ => True) (.slice Ao35 x8_1.length co35) x8_1) := ⟨by rw [← hq_]; exact (by (with_reducible repeat (first | apply Kd.R_alloc | apply Kd.R_drewN | apply Kd.R_drew)); exact HO_8.out)⟩; have n1_ : Aside0 (Below w.heap.size w wr) := ⟨by rw [← hq_]; exact (BW HB)⟩; clear HO_8 HB hq_; have HO_8 := n0_; have HB := n1_; clear n0_ n1_))) | ((with_reducible refine gate_builtin (b := .append) (xs := #[.const (.slice none 0 0), .tmp 51]) rfl ?_); at_builtin; refine Kd.R_append_rows (Kd.int .u16) (w0 := w) w.heap.size rfl (.const (.slice none 0 0)) (.tmp 51) 23 25 (.int .u16 0) 2 rfl Try.underlying23 info25 rfl (by decide) (by omega) (.slice none 0 0) ([] : List Int) L _ _ _ (fun k_ => some k_ ≠ (.slice Ao35 x8_1.length co35 : Value).ownBlock) (fun _ => False) rfl rfl ?aO ?aR (fun _ _ h => h) (fun _ h => h.elim) ?aF ?aB ?aS ?aL ?_; (case aR => first | (rw [← show L.length = (ji6).toNat from (by rw [List.length_take]; have h_ : ((ji6) : Int) ≤ (l0.length : Int) := of_decide_eq_true (by first | (with_reducible assumption) | assumption); omega)]; repeat (first | exact (Kd.C_below HR150.out HB.out) | (with_reducible refine Kd.C_alloc ?_ _) | (with_reducible refine Kd.C_drewN ?_ _) | (with_reducible refine Kd.C_drew ?_))) | (repeat (first | exact (Kd.C_below HR150.out HB.out) | (with_reducible refine Kd.C_alloc ?_ _) | (with_reducible refine Kd.C_drewN ?_ _) | (with_reducible refine Kd.C_drew ?_)))); (case aB => exact (BW HB)); (case aF => exact (fun k_ hk => Kd.fresh' (Kd.R_lt (by (with_reducible repeat (first | apply Kd.R_alloc | apply Kd.R_drewN | apply Kd.R_drew)); exact HO_8.out)) k_ hk)); (case aO => exact ((Kd.R_nil _ _ _ _ (fun k_ => some k_ ≠ (.slice Ao35 x8_1.length co35 : Value).ownBlock)))); (case aS => exact (below_size (BW HB))); (case aL => have := LMc24.out; (first | omega | (simp only [List.length_nil] at this ⊢; omega) | (simp at this ⊢; omega))); intro v159 w36 ho hb hg hat; rw [← Ny158.out] at ho; have n0_ := Aside0.mk (Kd.R_after (Kd.R_apart_nil (by (with_reducible repeat (first | apply Kd.R_alloc | apply Kd.R_drewN | apply Kd.R_drew)); exact HO_8.out)) hg hat); have n1_ := Aside0.mk (hb); have n2_ := Aside0.mk (ho); clear HO_8; clear HB; have HO_8 := n0_; have HB := n1_; have HO160 := n2_; clear n0_ n1_ n2_; clear ho hb hg hat))
    have n0_ := Aside0.mk (Kd.R_drew HO_8.out)
    have n1_ := Aside0.mk (Kd.R_drew HO160.out)
    have n2_ := Aside0.mk (below_drew1 HB.out)
    clear HO_8
    clear HO160
    clear HB
    have HO_8 := n0_
    have HO160 := n1_
    have HB := n2_
    clear n0_ n1_ n2_
    obtain ⟨Ao38, co38, eo38⟩ := Kd.R_slice HO160.out
    (first | subst eo38 | (injection eo38 with f1_ f2_ f3_; have f4_ := f1_.symm; have f5_ := f3_.symm; clear f1_ f2_ f3_; subst f4_; subst f5_))
    have p161 : 0 ≤ ((ji25) : Int) := of_decide_eq_true (by first | (with_reducible assumption) | assumption)
    have q161 : (ji25) < (y158.length : Int) := of_decide_eq_true (by first | (with_reducible assumption) | assumption)
    obtain ⟨ad161, e161, hx161_0⟩ := Kd.at_int (Kd.R_reads' HO160.out).2.2 (ji25) p161 q161
    cases e161
    replace p161 := eq_true p161
    replace q161 := eq_true q161
    have p31 : 0 ≤ ((ji25) : Int) := of_decide_eq_true (by first | (with_reducible assumption) | assumption)
    have q31 : ((ji25) : Int) < ((y158.length : Int) : Int) := of_decide_eq_true (by first | (with_reducible assumption) | assumption)
    obtain ⟨go31, co31, eo31, gb31, gl31, cl31, HG31⟩ := Kd.R_form HO160.out (by omega)
    (first | cases eo31 | (injection eo31 with ea_ en_ ec_; (first | subst ea_ | (injection ea_ with ea_; subst ea_)); subst ec_; clear en_))
    have GB31 := Aside0.mk gb31
    have GG31 := Aside0.mk HG31
    clear gb31 gl31 HG31
    (first | simp only [add_plain] at hx161_0 | skip)
    obtain ⟨hx31_0, hf31_0⟩ := Kd.R_celln 0 HO160.out ((ji25) : Int) p31 q31
    replace p31 := eq_true p31
    replace q31 := eq_true q31
    have HP39 := Kd.R_putn HO160.out ((ji25) : Int) (Go.bits .xor .u16 (rd y158 (ji25)) (ji30))
    rw [← Ny162.out] at HP39
    have HQ39 := Aside0.mk HP39
    clear HP39
    refine start_ (n := 18) (S := fun w' => w'.cell? ⟨go31, ((ji25)).toNat, none⟩ = some (.int .u16 (rd y158 (ji25)))) (ds := [17]) (bm 18 0x0) (by kernel_rfl) rfl rfl (hx161_0) (fun hHeld => ?_); refine with_tabW weighbridgelaw03_CksumOrder.tab17 weighbridgelaw03_CksumOrder.bits17 (fun HT_ HW_ => ?_)
    generalize w36.drew = w37 at HO_8 HO160 HB GG31 HQ39 hf31_0 hx161_0 hx31_0 hHeld ⊢
    refine pu 0 53 (bm 18 0x1) HT_ ?_
    refine pu 1 54 (bm 18 0x3) HT_ ?_
    refine pu 2 55 (bm 18 0x7) HT_ ?_
    refine pu 3 56 (bm 18 0xf) HT_ ?_
    refine pu 4 57 (bm 18 0x1f) HT_ ?_
    refine pu 5 58 (bm 18 0x3f) HT_ ?_
    refine pu 6 59 (bm 18 0x7f) HT_ ?_
    refine pu 7 60 (bm 18 0xff) HT_ ?_
    refine pu 8 61 (bm 18 0x1ff) HT_ ?_
    refine pu 9 62 (bm 18 0x3ff) HT_ ?_
    refine pu 10 63 (bm 18 0x7ff) HT_ ?_
    refine pu 12 65 (bm 18 0x17ff) HT_ ?_
    refine pu 13 66 (bm 18 0x37ff) HT_ ?_
    refine pu 14 67 (bm 18 0x77ff) HT_ ?_
    refine tw1 11 64 (bm 18 0x7fff) HT_ HW_ hHeld ?_
    refine pu 15 68 (bm 18 0xffff) HT_ ?_
    refine pu 16 69 (bm 18 0x1ffff) HT_ ?_
    refine last_ (i := 17) (N := none) (bm 18 0x3ffff) rfl rfl (one_of HT_.out (by kernel_rfl)) (by decide) (fun K hK => ?_)
    refine skip_ (w1 := ?_) (by rfl) rfl ?_ ?_
    rotate_left
    ·go_simp
     rfl
    refine hK.out _ _ ?_
    clear hK K
    refine done_ (done_of HT_.out (by kernel_rfl)) ?_
    try go_wp2_with (first | (go_at_call 21; refine calls_of_args (args' := #[.slice (some ⟨go31, 0, none⟩) y162.length co38]) (by first | (rw [show y162.length = y158.length from (Kd.R_reads' HQ39.out).1.symm] <;> rfl) | rfl) ?_; (with_reducible refine (cksum_Join.calls _ _ y162 t163 _ ?side1 ?side2 A33.out).mono ?_); (case side1 => refine (Kd.R_reads' (e := 25) (base := w.heap.size) (ok := fun k_ => some k_ ≠ (.slice Ao35 x8_1.length co35 : Value).ownBlock) (n := y158.length) (c := co38) ?_).2.2; exact (by (with_reducible repeat (first | apply Kd.R_alloc | apply Kd.R_drewN | apply Kd.R_drew)); exact HQ39.out)); (case side2 => rw [show y162.length = y158.length from (Kd.R_reads' HQ39.out).1.symm]; exact (Kd.R_reads' HO160.out).2.1); rintro e w' ⟨rfl, ⟨nd, rfl⟩⟩) | (go_at_call 21; (with_reducible refine (cksum_Join.calls _ _ L t164 _ ?side1 ?side2 A34.out).mono ?_); (case side1 => exact Kd.C_below HR150.out (BW HB)); (case side2 => exact HC150.out); rintro e w' ⟨rfl, ⟨nd, rfl⟩⟩))
    go_ret
    exact ⟨by first | rfl | (simp [errW_none, errW_some] <;> rfl) | (simp only [← hji6, ← hji25, ← hji28, ← hji30]; first | rfl | (simp [errW_none, errW_some] <;> rfl)) | (simp [*, errW_none, errW_some] <;> rfl), BW HB⟩
   rw [if_neg c23] at H
   have c23b0 : decide (a1 < 0) = false := decide_eq_false c23
   clear c23
   by_cases c40 : ([] : List Int).length + L.length < 70368744177664
   rotate_left
   ·rw [if_neg c40] at H
    exact absurd H (by simp)
   rw [if_pos c40] at H
   have LMc40 := Aside0.mk c40
   clear c40
   obtain ⟨y165, hy165⟩ : ∃ y_ : List Int, y_ = (([] : List Int) ++ L) := ⟨_, rfl⟩
   replace H : (if 0 ≤ (Int.tmod a1 (L.length : Int)) then (if (Int.tmod a1 (L.length : Int)) < (y165.length : Int) then (if 0 ≤ (Int.tmod a2 16) then (if true = true then ((cksum_Join.f (y165.set ((Int.tmod a1 (L.length : Int)) : Int).toNat (Go.bits .xor .u16 (rd y165 (Int.tmod a1 (L.length : Int))) (shl .u16 1 (Int.tmod a2 16))))).bind fun t170 => ((cksum_Join.f L).bind fun t171 => (some (t170 != t171)))) else (some false)) else (none)) else (none)) else (none)) = some r := by first | (rw [hy165]; with_reducible exact H) | (have H2_ := (Option.bind_some _ _).symm.trans H; rw [hy165]; with_reducible exact H2_) | (have H2_ := (Option.bind_some _ _).symm.trans H; with_reducible exact H2_) | with_reducible exact H | (rw [hy165]; exact H) | exact H
   have Ny165 := Aside0.mk hy165
   clear hy165
   obtain ⟨ji41, hji41⟩ : ∃ j_ : Int, (Int.tmod a1 (L.length : Int)) = j_ := ⟨_, rfl⟩
   replace H : (if 0 ≤ (ji41) then (if (ji41) < (y165.length : Int) then (if 0 ≤ (Int.tmod a2 16) then (if true = true then ((cksum_Join.f (y165.set ((ji41) : Int).toNat (Go.bits .xor .u16 (rd y165 (ji41)) (shl .u16 1 (Int.tmod a2 16))))).bind fun t170 => ((cksum_Join.f L).bind fun t171 => (some (t170 != t171)))) else (some false)) else (none)) else (none)) else (none)) = some r := by first | (rw [hji41] at H; exact H) | (simp only [hji41] at H ⊢; exact H)
   (try rw [hji41] at A16)
   (try rw [hji41] at A17)
   by_cases c42 : 0 ≤ (ji41)
   rotate_left
   ·rw [if_neg c42] at H
    exact absurd H (by simp)
   rw [if_pos c42] at H
   have c42b0 : decide (0 ≤ (ji41)) = true := decide_eq_true c42
   clear c42
   by_cases c43 : (ji41) < (y165.length : Int)
   rotate_left
   ·rw [if_neg c43] at H
    exact absurd H (by simp)
   rw [if_pos c43] at H
   have c43b0 : decide ((ji41) < (y165.length : Int)) = true := decide_eq_true c43
   clear c43
   obtain ⟨ji44, hji44⟩ : ∃ j_ : Int, (Int.tmod a2 16) = j_ := ⟨_, rfl⟩
   replace H : (if 0 ≤ (ji44) then (if true = true then ((cksum_Join.f (y165.set ((ji41) : Int).toNat (Go.bits .xor .u16 (rd y165 (ji41)) (shl .u16 1 (ji44))))).bind fun t170 => ((cksum_Join.f L).bind fun t171 => (some (t170 != t171)))) else (some false)) else (none)) = some r := by first | (rw [hji44] at H; exact H) | (simp only [hji44] at H ⊢; exact H)
   (try rw [hji44] at A16)
   (try rw [hji44] at A17)
   by_cases c45 : 0 ≤ (ji44)
   rotate_left
   ·rw [if_neg c45] at H
    exact absurd H (by simp)
   rw [if_pos c45] at H
   have c45b0 := eq_true c45
   have c45b1 : decide (0 ≤ (ji44)) = true := decide_eq_true c45
   clear c45
   obtain ⟨ji46, hji46⟩ : ∃ j_ : Int, (shl .u16 1 (ji44)) = j_ := ⟨_, rfl⟩
   replace H : (if true = true then ((cksum_Join.f (y165.set ((ji41) : Int).toNat (Go.bits .xor .u16 (rd y165 (ji41)) (ji46)))).bind fun t170 => ((cksum_Join.f L).bind fun t171 => (some (t170 != t171)))) else (some false)) = some r := by first | (rw [hji46] at H; exact H) | (simp only [hji46] at H ⊢; exact H)
   (try rw [hji46] at A16)
   (try rw [hji46] at A17)
   have hji46_ : (IntKind.u16.wrap (1 * 2 ^ min (ji44).toNat 16)) = ji46 := hji46
   have hji46z : (ji44) ≤ 16 → (IntKind.u16.wrap (1 * 2 ^ (ji44).toNat)) = ji46 := shl_small hji46
   have hji46u : (IntKind.u16.wrap (2 ^ min (ji44).toNat 16)) = ji46 := by have h_ := hji46_; rw [Int.one_mul] at h_; exact h_
   have hji46v : (ji44) ≤ 16 → (IntKind.u16.wrap (2 ^ (ji44).toNat)) = ji46 := fun hle_ => by have h_ := hji46z hle_; rw [Int.one_mul] at h_; exact h_
   obtain ⟨y169, hy169⟩ : ∃ y_ : List Int, y_ = (y165.set ((ji41) : Int).toNat (Go.bits .xor .u16 (rd y165 (ji41)) (ji46))) := ⟨_, rfl⟩
   replace H : (if true = true then ((cksum_Join.f y169).bind fun t170 => ((cksum_Join.f L).bind fun t171 => (some (t170 != t171)))) else (some false)) = some r := by first | (rw [hy169]; with_reducible exact H) | (have H2_ := (Option.bind_some _ _).symm.trans H; rw [hy169]; with_reducible exact H2_) | (have H2_ := (Option.bind_some _ _).symm.trans H; with_reducible exact H2_) | with_reducible exact H | (rw [hy169]; exact H) | exact H
   have Ny169 := Aside0.mk hy169
   clear hy169
   have c48 : true = true := rfl
   clear c48
   first | rw [if_pos rfl] at H | rw [if_pos trivial] at H
   replace H := Option.bind_eq_some_iff.mp H
   obtain ⟨t170, A490, H⟩ := H
   (try set_option simprocs false in dsimp only at H)
   have A49 := Aside0.mk A490
   clear A490
   replace H := Option.bind_eq_some_iff.mp H
   obtain ⟨t171, A500, H⟩ := H
   (try set_option simprocs false in dsimp only at H)
   have A50 := Aside0.mk A500
   clear A500
   obtain rfl := Option.some.inj H
   try go_wp2_with (first | ((with_reducible refine gate_callee (f := 21) rfl ?_); refine goesL_ (some 34) rfl rfl Try.func21 (by kernel_rfl) rfl #[.slice A0 L.length c0] rfl (by (try simp only [List.map_toArray, List.map_cons, List.map_nil]); first | done | (rw [show L.length = (ji6).toNat from (by rw [List.length_take]; have h_ : ((ji6) : Int) ≤ (l0.length : Int) := of_decide_eq_true (by first | (with_reducible assumption) | assumption); omega)] <;> rfl) | (simp only [hji6]; rfl) | rfl | (simp only [List.length_drop, List.length_take]; rfl)) ?_; (with_reducible refine (cksum_Join.calls _ _ L t155 _ ?side1 ?side2 A16.out).mono ?_); (case side1 => repeat (first | exact (Kd.C_below HR150.out HB.out) | (with_reducible refine Kd.C_alloc ?_ _) | (with_reducible refine Kd.C_drewN ?_ _) | (with_reducible refine Kd.C_drew ?_))); (case side2 => exact HC150.out); rintro e w' ⟨rfl, ⟨nd, rfl⟩⟩; refine ⟨_, rfl, ?_⟩; (try (rw [drewN_self wr]; generalize hq_ : World.drewN wr _ = wr; have n0_ : Aside0 (Kd.R (Kd.int .u16) 25 wr w.heap.size (fun _ => True) u8 x8_1) := ⟨by rw [← hq_]; exact (by (with_reducible repeat (first | apply Kd.R_alloc | apply Kd.R_drewN | apply Kd.R_drew)); exact HO_8.out)⟩; have n1_ : Aside0 (Below w.heap.size w wr) := ⟨by rw [← hq_]; exact (BW HB)⟩; clear HO_8 HB hq_; have HO_8 := n0_; have HB := n1_; clear n0_ n1_)); obtain ⟨Ao51, co51, eo51⟩ := Kd.R_slice HO_8.out; subst eo51) | ((with_reducible refine gate_callee (f := 21) rfl ?_); refine goesL_ (some 36) rfl rfl Try.func21 (by kernel_rfl) rfl #[.slice Ao51 x8_1.length co51] rfl AG ?_; (with_reducible refine (cksum_Join.calls _ _ x8_1 t156 _ ?side1 ?side2 A17.out).mono ?_); (case side1 => repeat (first | exact (Kd.R_reads' HO_8.out).2.2 | (with_reducible refine Kd.C_alloc ?_ _) | (with_reducible refine Kd.C_drewN ?_ _) | (with_reducible refine Kd.C_drew ?_))); (case side2 => exact (Kd.R_reads' HO_8.out).2.1); rintro e w' ⟨rfl, ⟨nd, rfl⟩⟩; refine ⟨_, rfl, ?_⟩; (try (rw [drewN_self wr]; generalize hq_ : World.drewN wr _ = wr; have n0_ : Aside0 (Kd.R (Kd.int .u16) 25 wr w.heap.size (fun _ => True) (.slice Ao51 x8_1.length co51) x8_1) := ⟨by rw [← hq_]; exact (by (with_reducible repeat (first | apply Kd.R_alloc | apply Kd.R_drewN | apply Kd.R_drew)); exact HO_8.out)⟩; have n1_ : Aside0 (Below w.heap.size w wr) := ⟨by rw [← hq_]; exact (BW HB)⟩; clear HO_8 HB hq_; have HO_8 := n0_; have HB := n1_; clear n0_ n1_))) | ((with_reducible refine gate_builtin (b := .append) (xs := #[.const (.slice none 0 0), .tmp 51]) rfl ?_); at_builtin; refine Kd.R_append_rows (Kd.int .u16) (w0 := w) w.heap.size rfl (.const (.slice none 0 0)) (.tmp 51) 23 25 (.int .u16 0) 2 rfl Try.underlying23 info25 rfl (by decide) (by omega) (.slice none 0 0) ([] : List Int) L _ _ _ (fun k_ => some k_ ≠ (.slice Ao51 x8_1.length co51 : Value).ownBlock) (fun _ => False) rfl rfl ?aO ?aR (fun _ _ h => h) (fun _ h => h.elim) ?aF ?aB ?aS ?aL ?_; (case aR => first | (rw [← show L.length = (ji6).toNat from (by rw [List.length_take]; have h_ : ((ji6) : Int) ≤ (l0.length : Int) := of_decide_eq_true (by first | (with_reducible assumption) | assumption); omega)]; repeat (first | exact (Kd.C_below HR150.out HB.out) | (with_reducible refine Kd.C_alloc ?_ _) | (with_reducible refine Kd.C_drewN ?_ _) | (with_reducible refine Kd.C_drew ?_))) | (repeat (first | exact (Kd.C_below HR150.out HB.out) | (with_reducible refine Kd.C_alloc ?_ _) | (with_reducible refine Kd.C_drewN ?_ _) | (with_reducible refine Kd.C_drew ?_)))); (case aB => exact (BW HB)); (case aF => exact (fun k_ hk => Kd.fresh' (Kd.R_lt (by (with_reducible repeat (first | apply Kd.R_alloc | apply Kd.R_drewN | apply Kd.R_drew)); exact HO_8.out)) k_ hk)); (case aO => exact ((Kd.R_nil _ _ _ _ (fun k_ => some k_ ≠ (.slice Ao51 x8_1.length co51 : Value).ownBlock)))); (case aS => exact (below_size (BW HB))); (case aL => have := LMc40.out; (first | omega | (simp only [List.length_nil] at this ⊢; omega) | (simp at this ⊢; omega))); intro v166 w52 ho hb hg hat; rw [← Ny165.out] at ho; have n0_ := Aside0.mk (Kd.R_after (Kd.R_apart_nil (by (with_reducible repeat (first | apply Kd.R_alloc | apply Kd.R_drewN | apply Kd.R_drew)); exact HO_8.out)) hg hat); have n1_ := Aside0.mk (hb); have n2_ := Aside0.mk (ho); clear HO_8; clear HB; have HO_8 := n0_; have HB := n1_; have HO167 := n2_; clear n0_ n1_ n2_; clear ho hb hg hat))
   have n0_ := Aside0.mk (Kd.R_drew HO_8.out)
   have n1_ := Aside0.mk (Kd.R_drew HO167.out)
   have n2_ := Aside0.mk (below_drew1 HB.out)
   clear HO_8
   clear HO167
   clear HB
   have HO_8 := n0_
   have HO167 := n1_
   have HB := n2_
   clear n0_ n1_ n2_
   obtain ⟨Ao54, co54, eo54⟩ := Kd.R_slice HO167.out
   (first | subst eo54 | (injection eo54 with f1_ f2_ f3_; have f4_ := f1_.symm; have f5_ := f3_.symm; clear f1_ f2_ f3_; subst f4_; subst f5_))
   have p168 : 0 ≤ ((ji41) : Int) := of_decide_eq_true (by first | (with_reducible assumption) | assumption)
   have q168 : (ji41) < (y165.length : Int) := of_decide_eq_true (by first | (with_reducible assumption) | assumption)
   obtain ⟨ad168, e168, hx168_0⟩ := Kd.at_int (Kd.R_reads' HO167.out).2.2 (ji41) p168 q168
   cases e168
   replace p168 := eq_true p168
   replace q168 := eq_true q168
   have p47 : 0 ≤ ((ji41) : Int) := of_decide_eq_true (by first | (with_reducible assumption) | assumption)
   have q47 : ((ji41) : Int) < ((y165.length : Int) : Int) := of_decide_eq_true (by first | (with_reducible assumption) | assumption)
   obtain ⟨go47, co47, eo47, gb47, gl47, cl47, HG47⟩ := Kd.R_form HO167.out (by omega)
   (first | cases eo47 | (injection eo47 with ea_ en_ ec_; (first | subst ea_ | (injection ea_ with ea_; subst ea_)); subst ec_; clear en_))
   have GB47 := Aside0.mk gb47
   have GG47 := Aside0.mk HG47
   clear gb47 gl47 HG47
   (first | simp only [add_plain] at hx168_0 | skip)
   obtain ⟨hx47_0, hf47_0⟩ := Kd.R_celln 0 HO167.out ((ji41) : Int) p47 q47
   replace p47 := eq_true p47
   replace q47 := eq_true q47
   have HP55 := Kd.R_putn HO167.out ((ji41) : Int) (Go.bits .xor .u16 (rd y165 (ji41)) (ji46))
   rw [← Ny169.out] at HP55
   have HQ55 := Aside0.mk HP55
   clear HP55
   refine start_ (n := 18) (S := fun w' => w'.cell? ⟨go47, ((ji41)).toNat, none⟩ = some (.int .u16 (rd y165 (ji41)))) (ds := [17]) (bm 18 0x0) (by kernel_rfl) rfl rfl (hx168_0) (fun hHeld => ?_); refine with_tabW weighbridgelaw03_CksumOrder.tab17 weighbridgelaw03_CksumOrder.bits17 (fun HT_ HW_ => ?_)
   generalize w52.drew = w53 at HO_8 HO167 HB GG47 HQ55 hf47_0 hx168_0 hx47_0 hHeld ⊢
   refine pu 0 53 (bm 18 0x1) HT_ ?_
   refine pu 1 54 (bm 18 0x3) HT_ ?_
   refine pu 2 55 (bm 18 0x7) HT_ ?_
   refine pu 3 56 (bm 18 0xf) HT_ ?_
   refine pu 4 57 (bm 18 0x1f) HT_ ?_
   refine pu 5 58 (bm 18 0x3f) HT_ ?_
   refine pu 6 59 (bm 18 0x7f) HT_ ?_
   refine pu 7 60 (bm 18 0xff) HT_ ?_
   refine pu 8 61 (bm 18 0x1ff) HT_ ?_
   refine pu 9 62 (bm 18 0x3ff) HT_ ?_
   refine pu 10 63 (bm 18 0x7ff) HT_ ?_
   refine pu 12 65 (bm 18 0x17ff) HT_ ?_
   refine pu 13 66 (bm 18 0x37ff) HT_ ?_
   refine pu 14 67 (bm 18 0x77ff) HT_ ?_
   refine tw1 11 64 (bm 18 0x7fff) HT_ HW_ hHeld ?_
   refine pu 15 68 (bm 18 0xffff) HT_ ?_
   refine pu 16 69 (bm 18 0x1ffff) HT_ ?_
   refine last_ (i := 17) (N := none) (bm 18 0x3ffff) rfl rfl (one_of HT_.out (by kernel_rfl)) (by decide) (fun K hK => ?_)
   refine skip_ (w1 := ?_) (by rfl) rfl ?_ ?_
   rotate_left
   ·go_simp
    rfl
   refine hK.out _ _ ?_
   clear hK K
   refine done_ (done_of HT_.out (by kernel_rfl)) ?_
   try go_wp2_with (first | (go_at_call 21; refine calls_of_args (args' := #[.slice (some ⟨go47, 0, none⟩) y169.length co54]) (by first | (rw [show y169.length = y165.length from (Kd.R_reads' HQ55.out).1.symm] <;> rfl) | rfl) ?_; (with_reducible refine (cksum_Join.calls _ _ y169 t170 _ ?side1 ?side2 A49.out).mono ?_); (case side1 => refine (Kd.R_reads' (e := 25) (base := w.heap.size) (ok := fun k_ => some k_ ≠ (.slice Ao51 x8_1.length co51 : Value).ownBlock) (n := y165.length) (c := co54) ?_).2.2; exact (by (with_reducible repeat (first | apply Kd.R_alloc | apply Kd.R_drewN | apply Kd.R_drew)); exact HQ55.out)); (case side2 => rw [show y169.length = y165.length from (Kd.R_reads' HQ55.out).1.symm]; exact (Kd.R_reads' HO167.out).2.1); rintro e w' ⟨rfl, ⟨nd, rfl⟩⟩) | (go_at_call 21; (with_reducible refine (cksum_Join.calls _ _ L t171 _ ?side1 ?side2 A50.out).mono ?_); (case side1 => exact Kd.C_below HR150.out (BW HB)); (case side2 => exact HC150.out); rintro e w' ⟨rfl, ⟨nd, rfl⟩⟩))
   go_ret
   exact ⟨by first | rfl | (simp [errW_none, errW_some] <;> rfl) | (simp only [← hji6, ← hji41, ← hji44, ← hji46]; first | rfl | (simp [errW_none, errW_some] <;> rfl)) | (simp [*, errW_none, errW_some] <;> rfl), BW HB⟩

/-- THE ONE PURE STATEMENT of weighbridgelaw03_CksumOrder: yours. -/
def weighbridgelaw03_CksumOrder.Pure : Prop := ∀ (l0 : List Int) (a1 : Int) (a2 : Int), l0.length ≤ maxLen → l0.length * 2 ≤ 140737488351232 → (∀ x ∈ l0, (Lit.int .u16 x).wf = true) → (Lit.int .i64 a1).wf = true → (Lit.int .u8 a2).wf = true → ∃ k, weighbridgelaw03_CksumOrder.f k l0 a1 a2 = some true
theorem weighbridgelaw03_CksumOrder.walk (P : weighbridgelaw03_CksumOrder.Pure) (a0 : Option Addr) (len0 cap0 : Nat) (z0 : List Int) (a1 : Int) (a2 : Int) (w : World) (w0 : (a0 = none ∧ len0 = 0 ∧ cap0 = 0 ∧ z0 = []) ∨ ∃ x, a0 = some x ∧ len0 ≤ cap0 ∧ cap0 ≤ maxLen ∧ z0.length = cap0 ∧ (∀ i, i < z0.length → w.cell? (x.add i) = some (.int .u16 (z0.getD i 0))) ∧ ∀ n ∈ z0, (Lit.int .u16 n).wf = true) (y0 : len0 * 2 ≤ 140737488351232) (w1 : (Lit.int .i64 a1).wf = true) (w2 : (Lit.int .u8 a2).wf = true) :
  Calls Try.prog 5 #[.slice a0 len0 cap0, .int .i64 a1, .int .u8 a2] w fun e w' => e = .returned (.bool true) ∧ Below w.heap.size w w' := by
 obtain ⟨l0, rfl, hr0, hm0, hw0, hc0⟩ := ReadsInt.ofRowC w0
 obtain ⟨k, h⟩ := P l0 a1 a2 hm0 y0 hw0 w1 w2
 refine (weighbridgelaw03_CksumOrder.calls k _ _ l0 a1 a2 true w (Kd.C_of_reads (d := (0 : Int)) (h1 := fun _ => rfl) hr0) hc0 h rfl).mono ?_
 rintro e w' ⟨rfl, hd⟩
 exact ⟨rfl, hd⟩

end Go.Proofs.Ytkdmdnihkhhpiaa.Pr
