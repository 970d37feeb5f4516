-- Written by a program of the session (wip/tools) out of the translation, over the kit's print; with pieces of the session's own.
import Derived.Test.YthdaldicdhpnoaaPr0
import Derived.Test.YthdaldicdhpnoaaPr3
import Derived.Test.YthdaldicdhpnoaaPr6
namespace Go.Proofs.Ythdaldicdhpnoaa.Pr
open Go.RowKit Go.Proofs.YthdaldicdhpnoaaW.PrintWords Go.Proofs.YthdaldicdhpnoaaW.PrintLast Go.Proofs.YthdaldicdhpnoaaW.PrintMore
attribute [local go_sem] max2_int min2_int max_two min_two max_three min_three max_four min_four   -- for this text's walks alone
set_option linter.unusedVariables false
set_option linter.unusedSimpArgs false
open Go.Proofs.Ythdaldicdhpnoaa.Sp
/-! ### weighbridgelaw04_Ip4Options: function 6 -/
def weighbridgelaw04_Ip4Options.l0 : Nat → Int → ByteArray → Bool → Int → ByteArray → ByteArray → Int → Option (Bool)
  | 0, _, _, _, _, _, _, _ => none
  | k + 1, x2, x3, x9, x10, x12, x13, x14 => if x14 < (wrap64 (Int.tmod x2 4)) then (if x13.size + x12.size ≤ 9223372036854775807 then (weighbridgelaw04_Ip4Options.l0 k x2 x3 x9 x10 x12 (x13 ++ x12) (wrap64 (x14 + 1))) else (none)) else (if x9 = true then (if x13.size + x12.size ≤ 9223372036854775807 then ((ip4_OptsRight.f (x13 ++ x12)).bind fun t306 => (if t306 = true then (if x13.size + 1 ≤ 9223372036854775807 then (if (x13 ++ (⟨#[0]⟩ : ByteArray)).size + x3.size ≤ 9223372036854775807 then ((ip4_OptsRight.f ((x13 ++ (⟨#[0]⟩ : ByteArray)) ++ x3)).bind fun t307 => (if t307 = true then (if 0 ≤ (wrap64 ((x12.size : Int) - 1)) then (if (wrap64 ((x12.size : Int) - 1)) ≤ (x12.size : Int) then (if x13.size + (x12.extract 0 ((wrap64 ((x12.size : Int) - 1)) : Int).toNat).size ≤ 9223372036854775807 then ((ip4_OptsRight.f (x13 ++ (x12.extract 0 ((wrap64 ((x12.size : Int) - 1)) : Int).toNat))).bind fun t308 => (if t308 = true then (some false) else ((some (([(x10) % 256, 1] : List Int) : List Int)).bind fun y309 => (if x13.size + (strOfNums y309).size ≤ 9223372036854775807 then ((ip4_OptsRight.f (x13 ++ (strOfNums y309))).bind fun t312 => (if t312 = true then (some false) else ((some (([(x10) % 256] : List Int) : List Int)).bind fun y313 => (if x13.size + (strOfNums y313).size ≤ 9223372036854775807 then ((ip4_OptsRight.f (x13 ++ (strOfNums y313))).bind fun t316 => (some (!t316))) else (none))))) else (none))))) else (none)) else (none)) else (none)) else (some false))) else (none)) else (none)) else (some false))) else (none)) else (some false))
def weighbridgelaw04_Ip4Options.f (k : Nat) (a0 : Int) (a1 : Int) (a2 : Int) (a3 : ByteArray) : Option (Bool) := (weighbridgelaw04_examples.f).bind fun t299 => (if t299 = true then ((some (([(wrap64 (2 + (Int.tmod (wrap64 (a0)) 254))) % 256, (wrap64 (2 + (wrap64 (Int.tmod a1 39)))) % 256] : List Int) : List Int)).bind fun y300 => (if 0 ≤ (wrap64 ((wrap64 (2 + (wrap64 (Int.tmod a1 39)))) - 2)) then (if (wrap64 ((wrap64 (2 + (wrap64 (Int.tmod a1 39)))) - 2) : Int).toNat ≤ 281474976710656 then ((some (List.replicate (wrap64 ((wrap64 (2 + (wrap64 (Int.tmod a1 39)))) - 2) : Int).toNat 0 : List Int)).bind fun y303 => (if (strOfNums y300).size + (strOfNums y303).size ≤ 9223372036854775807 then (weighbridgelaw04_Ip4Options.l0 k a2 a3 t299 (wrap64 (2 + (Int.tmod (wrap64 (a0)) 254))) ((strOfNums y300) ++ (strOfNums y303)) (⟨#[1]⟩ : ByteArray) 0) else (none))) else (none)) else (none))) else (some false))
theorem weighbridgelaw04_Ip4Options.mono_l : ∀ k, (∀ y0 y1 y2 y3 y4 y5 y6, LeO (weighbridgelaw04_Ip4Options.l0 k y0 y1 y2 y3 y4 y5 y6) (weighbridgelaw04_Ip4Options.l0 (k + 1) y0 y1 y2 y3 y4 y5 y6))
  | 0 => fun _ _ _ _ _ _ _ r h => by simp [weighbridgelaw04_Ip4Options.l0] at h
  | k + 1 => by
    have ih0 := weighbridgelaw04_Ip4Options.mono_l k
    · intro y0 y1 y2 y3 y4 y5 y6
      unfold weighbridgelaw04_Ip4Options.l0
      repeat' first
      | (with_reducible exact ih0 _ _ _ _ _ _ _)
      | (with_reducible exact LeO.refl _)
      | (with_reducible exact LeO.none _)
      | (with_reducible refine LeO.ite ?_ ?_)
      | (with_reducible refine LeO.bind ?_ (fun _ => ?_))
      | exact ih0 _ _ _ _ _ _ _
      | exact LeO.none _
      | refine LeO.ite ?_ ?_
      | refine LeO.bind ?_ (fun _ => ?_)
theorem weighbridgelaw04_Ip4Options.mono : ∀ a0 a1 a2 a3 k, LeO (weighbridgelaw04_Ip4Options.f k a0 a1 a2 a3) (weighbridgelaw04_Ip4Options.f (k + 1) a0 a1 a2 a3) := by
  intro a0 a1 a2 a3 k
  have ih0 := weighbridgelaw04_Ip4Options.mono_l k
  unfold weighbridgelaw04_Ip4Options.f
  repeat' first
      | (with_reducible exact ih0 _ _ _ _ _ _ _)
      | (with_reducible exact LeO.refl _)
      | (with_reducible exact LeO.none _)
      | (with_reducible refine LeO.ite ?_ ?_)
      | (with_reducible refine LeO.bind ?_ (fun _ => ?_))
      | exact ih0 _ _ _ _ _ _ _
      | exact LeO.none _
      | refine LeO.ite ?_ ?_
      | refine LeO.bind ?_ (fun _ => ?_)
def weighbridgelaw04_Ip4Options.T6 : Bool × List (List Nat × List Nat) := (true, [([], []), ([0], [0]), ([], []), ([2], [2]), ([1, 3], [1, 3]), ([4], [4]), ([], []), ([6], [6]), ([7, 7], [7]), ([8], [8]), ([5, 9], [5, 9]), ([10, 0, 1, 2, 3, 4, 5, 6, 7, 8, 9, 10], [10])])
def weighbridgelaw04_Ip4Options.B6 : List Nat := [0, 1, 0, 4, 15, 31, 0, 64, 192, 448, 1023, 2047]
theorem weighbridgelaw04_Ip4Options.tab6 : rtab .any (opsOf Try.f6 6) = weighbridgelaw04_Ip4Options.T6 := by kernel_rfl
theorem weighbridgelaw04_Ip4Options.bits6 : waitsOk weighbridgelaw04_Ip4Options.T6.2 weighbridgelaw04_Ip4Options.B6 = true := by kernel_rfl
set_option maxHeartbeats 8000000 in
set_option maxRecDepth 100000 in
theorem weighbridgelaw04_Ip4Options.calls (k : Nat) (a0 : Int) (a1 : Int) (a2 : Int) (a3 : ByteArray) (r : Bool) (w : World) (h : weighbridgelaw04_Ip4Options.f k a0 a1 a2 a3 = some r) (hr_ : r = true) :
    Calls Try.prog 6 #[.int .u8 a0, .int .u8 a1, .int .u8 a2, .string a3] w fun e w' => e = .returned (.bool r) ∧ Below w.heap.size w w' := by
  have HB := Aside0.mk (Below.refl w.heap.size w)
  have H : ((weighbridgelaw04_examples.f).bind fun t299 => (if t299 = true then ((some (([(wrap64 (2 + (Int.tmod (wrap64 (a0)) 254))) % 256, (wrap64 (2 + (wrap64 (Int.tmod a1 39)))) % 256] : List Int) : List Int)).bind fun y300 => (if 0 ≤ (wrap64 ((wrap64 (2 + (wrap64 (Int.tmod a1 39)))) - 2)) then (if (wrap64 ((wrap64 (2 + (wrap64 (Int.tmod a1 39)))) - 2) : Int).toNat ≤ 281474976710656 then ((some (List.replicate (wrap64 ((wrap64 (2 + (wrap64 (Int.tmod a1 39)))) - 2) : Int).toNat 0 : List Int)).bind fun y303 => (if (strOfNums y300).size + (strOfNums y303).size ≤ 9223372036854775807 then (weighbridgelaw04_Ip4Options.l0 k a2 a3 t299 (wrap64 (2 + (Int.tmod (wrap64 (a0)) 254))) ((strOfNums y300) ++ (strOfNums y303)) (⟨#[1]⟩ : ByteArray) 0) else (none))) else (none)) else (none))) else (some false))) = some r := h
  clear h
  replace H := Option.bind_eq_some_iff.mp H
  obtain ⟨t299, A50, H⟩ := H
  replace H : (if t299 = true then ((some (([(wrap64 (2 + (Int.tmod (wrap64 (a0)) 254))) % 256, (wrap64 (2 + (wrap64 (Int.tmod a1 39)))) % 256] : List Int) : List Int)).bind fun y300 => (if 0 ≤ (wrap64 ((wrap64 (2 + (wrap64 (Int.tmod a1 39)))) - 2)) then (if (wrap64 ((wrap64 (2 + (wrap64 (Int.tmod a1 39)))) - 2) : Int).toNat ≤ 281474976710656 then ((some (List.replicate (wrap64 ((wrap64 (2 + (wrap64 (Int.tmod a1 39)))) - 2) : Int).toNat 0 : List Int)).bind fun y303 => (if (strOfNums y300).size + (strOfNums y303).size ≤ 9223372036854775807 then (weighbridgelaw04_Ip4Options.l0 k a2 a3 t299 (wrap64 (2 + (Int.tmod (wrap64 (a0)) 254))) ((strOfNums y300) ++ (strOfNums y303)) (⟨#[1]⟩ : ByteArray) 0) else (none))) else (none)) else (none))) else (some false)) = some r := H
  have A5 := Aside0.mk A50
  clear A50
  by_cases c6 : t299 = true
  · subst c6
    have H1 : ((some (([(wrap64 (2 + (Int.tmod (wrap64 (a0)) 254))) % 256, (wrap64 (2 + (wrap64 (Int.tmod a1 39)))) % 256] : List Int) : List Int)).bind fun y300 => (if 0 ≤ (wrap64 ((wrap64 (2 + (wrap64 (Int.tmod a1 39)))) - 2)) then (if (wrap64 ((wrap64 (2 + (wrap64 (Int.tmod a1 39)))) - 2) : Int).toNat ≤ 281474976710656 then ((some (List.replicate (wrap64 ((wrap64 (2 + (wrap64 (Int.tmod a1 39)))) - 2) : Int).toNat 0 : List Int)).bind fun y303 => (if (strOfNums y300).size + (strOfNums y303).size ≤ 9223372036854775807 then (weighbridgelaw04_Ip4Options.l0 k a2 a3 true (wrap64 (2 + (Int.tmod (wrap64 (a0)) 254))) ((strOfNums y300) ++ (strOfNums y303)) (⟨#[1]⟩ : ByteArray) 0) else (none))) else (none)) else (none))) = some r := by first | (rw [if_pos rfl] at H; exact H) | (rw [if_pos trivial] at H; exact H)
    clear H
    have H := H1
    clear H1
    obtain ⟨y300, hy300⟩ : ∃ y_ : List Int, y_ = (([(wrap64 (2 + (Int.tmod (wrap64 (a0)) 254))) % 256, (wrap64 (2 + (wrap64 (Int.tmod a1 39)))) % 256] : List Int)) := ⟨_, rfl⟩
    replace H : (if 0 ≤ (wrap64 ((wrap64 (2 + (wrap64 (Int.tmod a1 39)))) - 2)) then (if (wrap64 ((wrap64 (2 + (wrap64 (Int.tmod a1 39)))) - 2) : Int).toNat ≤ 281474976710656 then ((some (List.replicate (wrap64 ((wrap64 (2 + (wrap64 (Int.tmod a1 39)))) - 2) : Int).toNat 0 : List Int)).bind fun y303 => (if (strOfNums y300).size + (strOfNums y303).size ≤ 9223372036854775807 then (weighbridgelaw04_Ip4Options.l0 k a2 a3 true (wrap64 (2 + (Int.tmod (wrap64 (a0)) 254))) ((strOfNums y300) ++ (strOfNums y303)) (⟨#[1]⟩ : ByteArray) 0) else (none))) else (none)) else (none)) = some r := by first | (rw [hy300]; with_reducible exact H) | (have H2_ := (Option.bind_some _ _).symm.trans H; rw [hy300]; with_reducible exact H2_) | (have H2_ := (Option.bind_some _ _).symm.trans H; with_reducible exact H2_) | with_reducible exact H | (rw [hy300]; exact H) | exact H
    have Ny300 := Aside0.mk hy300
    clear hy300
    obtain ⟨ji7, hji7⟩ : ∃ j_ : Int, (wrap64 ((wrap64 (2 + (wrap64 (Int.tmod a1 39)))) - 2)) = j_ := ⟨_, rfl⟩
    replace H : (if 0 ≤ (ji7) then (if (ji7 : Int).toNat ≤ 281474976710656 then ((some (List.replicate (ji7 : Int).toNat 0 : List Int)).bind fun y303 => (if (strOfNums y300).size + (strOfNums y303).size ≤ 9223372036854775807 then (weighbridgelaw04_Ip4Options.l0 k a2 a3 true (wrap64 (2 + (Int.tmod (wrap64 (a0)) 254))) ((strOfNums y300) ++ (strOfNums y303)) (⟨#[1]⟩ : ByteArray) 0) else (none))) else (none)) else (none)) = some r := by first | (rw [hji7] at H; exact H) | (simp only [hji7] at H ⊢; exact H)
    (try rw [hji7] at A5)
    have hji7w : (IntKind.i64.wrap ((wrap64 (2 + (wrap64 (Int.tmod a1 39)))) - 2)) = ji7 := (i64_w _).trans hji7
    by_cases c8 : 0 ≤ (ji7)
    · rw [if_pos c8] at H
      have c8b0 := eq_true c8
      have c8b1 : decide (0 ≤ (ji7)) = true := decide_eq_true c8
      clear c8
      by_cases c9 : (ji7 : Int).toNat ≤ 281474976710656
      · rw [if_pos c9] at H
        have c9b0 := eq_true c9
        have c9b1 : decide ((ji7 : Int).toNat ≤ 281474976710656) = true := decide_eq_true c9
        clear c9
        obtain ⟨y303, hy303⟩ : ∃ y_ : List Int, y_ = (List.replicate (ji7 : Int).toNat 0) := ⟨_, rfl⟩
        replace H : (if (strOfNums y300).size + (strOfNums y303).size ≤ 9223372036854775807 then (weighbridgelaw04_Ip4Options.l0 k a2 a3 true (wrap64 (2 + (Int.tmod (wrap64 (a0)) 254))) ((strOfNums y300) ++ (strOfNums y303)) (⟨#[1]⟩ : ByteArray) 0) else (none)) = some r := by first | (rw [hy303]; with_reducible exact H) | (have H2_ := (Option.bind_some _ _).symm.trans H; rw [hy303]; with_reducible exact H2_) | (have H2_ := (Option.bind_some _ _).symm.trans H; with_reducible exact H2_) | with_reducible exact H | (rw [hy303]; exact H) | exact H
        have Ny303 := Aside0.mk hy303
        clear hy303
        by_cases c10 : (strOfNums y300).size + (strOfNums y303).size ≤ 9223372036854775807
        · rw [if_pos c10] at H
          have c10b0 := eq_true c10
          have c10b1 : decide ((strOfNums y300).size + (strOfNums y303).size ≤ 9223372036854775807) = true := decide_eq_true c10
          try have c10b2 : (9223372036854775807 < (strOfNums y300).size + (strOfNums y303).size) = False := eq_false (Nat.not_lt.2 c10)
          have H' := Aside0.mk H
          clear H
          go_enter Try.func6, Try.ntmps6
          try go_wp2_with (first | ((with_reducible refine gate_callee (f := 10) rfl ?_); refine goesL_ (some 15) rfl rfl Try.func10 (by kernel_rfl) rfl #[] rfl (by (try simp only [List.map_toArray, List.map_cons, List.map_nil]); first | done | rfl | (simp only [List.length_drop, List.length_take]; rfl)) ?_; (with_reducible refine (weighbridgelaw04_examples.calls  true _ A5.out).mono ?_); rintro e w11 ⟨rfl, hb⟩; (try clear A5); refine ⟨_, rfl, ?_⟩; have n0_ := Aside0.mk (below_step (by repeat (first | (with_reducible first | exact HB.out | apply below_alloc | apply pw_below_drewN | apply below_drew1) | exact HB.out)) hb); clear HB; have HB := n0_; clear n0_; (try clear hb); (try clear hb2); (try clear hk); (try clear hi)))
          have n0_ := Aside0.mk (below_drew1 HB.out)
          clear HB
          have HB := n0_
          clear n0_
          refine start_ (n := 12) (S := fun w' => True) (ds := []) #[false, false, false, false, false, false, false, false, false, false, false, false] (by kernel_rfl) rfl rfl trivial (fun hHeld => ?_); refine with_tabW weighbridgelaw04_Ip4Options.tab6 weighbridgelaw04_Ip4Options.bits6 (fun HT_ HW_ => ?_)
          generalize w11.drew = w12 at HB hHeld ⊢
          refine pure_ (i := 0) (N := some 26) (v := ?_) (a' := ?_) #[true, false, false, false, false, false, false, false, false, false, false, false] rfl rfl (any_of HT_.out (by kernel_rfl)) (fun _ _ _ h => h) (Or.inl ⟨by rfl, ?_⟩) ?_ ?_
          rotate_left
          · intro w'
            go_simp
            with_reducible rfl
          rotate_left
          · simp only [Act.put, List.setIfInBounds_toArray, List.set_cons_zero, List.set_cons_succ, i64_w, i32_w]
            rfl
          refine pure_ (i := 1) (N := some 27) (v := ?_) (a' := ?_) #[true, true, false, false, false, false, false, false, false, false, false, false] rfl rfl (any_of HT_.out (by kernel_rfl)) (fun _ _ _ h => h) (Or.inl ⟨by rfl, ?_⟩) ?_ ?_
          rotate_left
          · intro w'
            go_simp
            with_reducible rfl
          rotate_left
          · simp only [Act.put, List.setIfInBounds_toArray, List.set_cons_zero, List.set_cons_succ, i64_w, i32_w]
            rfl
          refine pure_ (i := 2) (N := some 28) (v := ?_) (a' := ?_) #[true, true, true, false, false, false, false, false, false, false, false, false] rfl rfl (any_of HT_.out (by kernel_rfl)) (fun _ _ _ h => h) (Or.inl ⟨by rfl, ?_⟩) ?_ ?_
          rotate_left
          · intro w'
            go_simp
            with_reducible rfl
          rotate_left
          · simp only [Act.put, List.setIfInBounds_toArray, List.set_cons_zero, List.set_cons_succ, i64_w, i32_w]
            rfl
          refine pure_ (i := 3) (N := some 29) (v := ?_) (a' := ?_) #[true, true, true, true, false, false, false, false, false, false, false, false] rfl rfl (any_of HT_.out (by kernel_rfl)) (fun _ _ _ h => h) (Or.inl ⟨by rfl, ?_⟩) ?_ ?_
          rotate_left
          · intro w'
            go_simp
            with_reducible rfl
          rotate_left
          · simp only [Act.put, List.setIfInBounds_toArray, List.set_cons_zero, List.set_cons_succ, i64_w, i32_w]
            rfl
          refine pure_ (i := 6) (N := some 32) (v := ?_) (a' := ?_) #[true, true, true, true, false, false, true, false, false, false, false, false] rfl rfl (any_of HT_.out (by kernel_rfl)) (fun _ _ _ h => h) (Or.inl ⟨by rfl, ?_⟩) ?_ ?_
          rotate_left
          · intro w'
            go_simp
            with_reducible rfl
          rotate_left
          · simp only [Act.put, List.setIfInBounds_toArray, List.set_cons_zero, List.set_cons_succ, i64_w, i32_w]
            rfl
          refine pure_ (i := 7) (N := some 33) (v := ?_) (a' := ?_) #[true, true, true, true, false, false, true, true, false, false, false, false] rfl rfl (any_of HT_.out (by kernel_rfl)) (fun _ _ _ h => h) (Or.inl ⟨by rfl, ?_⟩) ?_ ?_
          rotate_left
          · intro w'
            go_simp
            with_reducible rfl
          rotate_left
          · simp only [Act.put, List.setIfInBounds_toArray, List.set_cons_zero, List.set_cons_succ, i64_w, i32_w]
            rfl
          refine join_ (σ := Value × Value) 2 #[true, true, true, true, true, true, true, true, true, true, false, false] (fun s_ => [(30, s_.1), (31, .string (strOfNums y300)), (34, s_.2), (35, .string (strOfNums y303))]) (fun s_ w' => (Kd.R (Kd.int .u8) 5 w' w.heap.size (fun k_ => some k_ ≠ (s_.2 : Value).ownBlock) s_.1 y300) ∧ (Kd.R (Kd.int .u8) 5 w' w.heap.size (fun k_ => some k_ ≠ (s_.1 : Value).ownBlock) s_.2 y303) ∧ (Below w.heap.size w w')) ?_ ?_
          rotate_left
          · intro hJ4_5_8_9
            refine join_ (σ := Value × Value) 3 #[true, true, true, true, true, true, true, true, true, false, false, false] (fun s_ => [(30, s_.1), (31, .string (strOfNums y300)), (34, s_.2)]) (fun s_ w' => (Kd.R (Kd.int .u8) 5 w' w.heap.size (fun k_ => some k_ ≠ (s_.2 : Value).ownBlock) s_.1 y300) ∧ (Kd.R (Kd.int .u8) 5 w' w.heap.size (fun k_ => some k_ ≠ (s_.1 : Value).ownBlock) s_.2 y303) ∧ (Below w.heap.size w w')) ?_ ?_
            rotate_left
            · intro hJ4_5_8
              refine join_ (σ := Value × Value) 3 #[true, true, true, true, true, false, true, true, true, true, false, false] (fun s_ => [(30, s_.1), (34, s_.2), (35, .string (strOfNums y303))]) (fun s_ w' => (Kd.R (Kd.int .u8) 5 w' w.heap.size (fun k_ => some k_ ≠ (s_.2 : Value).ownBlock) s_.1 y300) ∧ (Kd.R (Kd.int .u8) 5 w' w.heap.size (fun k_ => some k_ ≠ (s_.1 : Value).ownBlock) s_.2 y303) ∧ (Below w.heap.size w w')) ?_ ?_
              rotate_left
              · intro hJ4_8_9
                refine join_ (σ := Value) 4 #[true, true, true, true, true, true, true, true, false, false, false, false] (fun s_ => [(30, s_), (31, .string (strOfNums y300))]) (fun s_ w' => (Kd.R (Kd.int .u8) 5 w' w.heap.size (fun _ => True) s_ y300) ∧ (Below w.heap.size w w')) ?_ ?_
                rotate_left
                · intro hJ4_5
                  refine join_ (σ := Value × Value) 4 #[true, true, true, true, true, false, true, true, true, false, false, false] (fun s_ => [(30, s_.1), (34, s_.2)]) (fun s_ w' => (Kd.R (Kd.int .u8) 5 w' w.heap.size (fun k_ => some k_ ≠ (s_.2 : Value).ownBlock) s_.1 y300) ∧ (Kd.R (Kd.int .u8) 5 w' w.heap.size (fun k_ => some k_ ≠ (s_.1 : Value).ownBlock) s_.2 y303) ∧ (Below w.heap.size w w')) ?_ ?_
                  rotate_left
                  · intro hJ4_8
                    refine join_ (σ := Value) 4 #[true, true, true, true, false, false, true, true, true, true, false, false] (fun s_ => [(34, s_), (35, .string (strOfNums y303))]) (fun s_ w' => (Kd.R (Kd.int .u8) 5 w' w.heap.size (fun _ => True) s_ y303) ∧ (Below w.heap.size w w')) ?_ ?_
                    rotate_left
                    · intro hJ8_9
                      refine join_ (σ := Value) 5 #[true, true, true, true, true, false, true, true, false, false, false, false] (fun s_ => [(30, s_)]) (fun s_ w' => (Kd.R (Kd.int .u8) 5 w' w.heap.size (fun _ => True) s_ y300) ∧ (Below w.heap.size w w')) ?_ ?_
                      rotate_left
                      · intro hJ4
                        refine join_ (σ := Value) 5 #[true, true, true, true, false, false, true, true, true, false, false, false] (fun s_ => [(34, s_)]) (fun s_ w' => (Kd.R (Kd.int .u8) 5 w' w.heap.size (fun _ => True) s_ y303) ∧ (Below w.heap.size w w')) ?_ ?_
                        rotate_left
                        · intro hJ8
                          refine two_ (i := 4) (j := 8) (Ni := some 30) (Nj := some 34) #[true, true, true, true, true, false, true, true, false, false, false, false] #[true, true, true, true, false, false, true, true, true, false, false, false] rfl rfl rfl rfl (two_of HT_.out (by kernel_rfl)) (by decide) (by decide) (fun K hK => ?_) (fun K hK => ?_)
                          · skip
                            refine Kd.R_lit_step (Kd.int .u8) _ 5 ?hg (N := 30) ?hd (xs := ([(wrap64 (2 + (Int.tmod (wrap64 (a0)) 254))) % 256, (wrap64 (2 + (wrap64 (Int.tmod a1 39)))) % 256] : List Int)) (inner := [.int .u8 ((wrap64 (2 + (Int.tmod (wrap64 (a0)) 254))) % 256), .int .u8 ((wrap64 (2 + (wrap64 (Int.tmod a1 39)))) % 256)]) (ok := fun _ => True) (okp := fun _ => True) ?hr ?hp (fun _ hk => hk) trivial (Below.refl _ _) (Nat.le_refl _) (by simp) ?_; (case hd => rfl); (case hg => rfl); (case hr => first | (go_simp; done) | (go_simp; rfl)); (case hp => exact (Reps.one (show Kd.M (Kd.int .u8) _ _ _ ((wrap64 (2 + (Int.tmod (wrap64 (a0)) 254))) % 256) [.int .u8 ((wrap64 (2 + (Int.tmod (wrap64 (a0)) 254))) % 256)] from rfl) (Reps.one (show Kd.M (Kd.int .u8) _ _ _ ((wrap64 (2 + (wrap64 (Int.tmod a1 39)))) % 256) [.int .u8 ((wrap64 (2 + (wrap64 (Int.tmod a1 39)))) % 256)] from rfl) (Reps.none _ _))))
                            intro v301 w13 ho14 hb hg_ hnew_
                            clear hg_ hnew_
                            (first | rw [← Ny300.out] at ho14 | (simp only [Int.reduceToNat] at ho14; rw [← Ny300.out] at ho14))
                            have n0_ := Aside0.mk (Kd.R_lower ho14 (below_size (by repeat (first | (with_reducible first | exact HB.out | apply below_alloc | apply pw_below_drewN | apply below_drew1) | exact HB.out))))
                            have n1_ := Aside0.mk (below_step (by repeat (first | (with_reducible first | exact HB.out | apply below_alloc | apply pw_below_drewN | apply below_drew1) | exact HB.out)) hb)
                            clear HB
                            have HO302 := n0_
                            have HB := n1_
                            clear n0_ n1_
                            clear hb ho14
                            refine hK.out _ _ trivial (fun hHeld => ?_)
                            clear hK K
                            refine norm_ (a' := ?_) ?_ ?_
                            rotate_left
                            · show Act.put _ (some 30) _ = _
                              simp only [Act.put, List.setIfInBounds_toArray, List.set_cons_zero, List.set_cons_succ, i64_w, i32_w]
                              rfl
                            exact norm_ (by first | (simp only [putAll, Act.put, List.setIfInBounds_toArray, List.set_cons_zero, List.set_cons_succ]; done) | (simp only [putAll, Act.put, List.setIfInBounds_toArray, List.set_cons_zero, List.set_cons_succ]; rfl)) (hJ4 (v301) _ ⟨(by (with_reducible repeat (first | apply Kd.R_alloc | apply Kd.R_drewN | apply Kd.R_drew)); exact HO302.out), (by repeat (first | (with_reducible first | exact HB.out | apply below_alloc | apply pw_below_drewN | apply below_drew1) | exact HB.out))⟩)
                          · skip
                            refine Kd.R_make_step (Kd.int .u8) _ 5 (by rfl) (N := 34) rfl 42 _ _ rfl ji7 rfl rfl Try.underlying42 (.int .u8 0) 1 info5 rfl (by decide) (by omega) 0 (ok := fun _ => True) (okp := fun _ => True) rfl (fun _ hk => hk) trivial (of_decide_eq_true (by first | (with_reducible assumption) | assumption)) (Nat.le_trans (Nat.mul_le_mul_right _ (of_decide_eq_true (by first | (with_reducible assumption) | assumption) : ji7.toNat ≤ 281474976710656)) (by omega)) (Below.refl _ _) (Nat.le_refl _) ?_
                            intro v304 w13 ho14 hb hg_ hnew_
                            clear hg_ hnew_
                            (first | rw [← Ny303.out] at ho14 | (simp only [Int.reduceToNat] at ho14; rw [← Ny303.out] at ho14))
                            have n0_ := Aside0.mk (Kd.R_lower ho14 (below_size (by repeat (first | (with_reducible first | exact HB.out | apply below_alloc | apply pw_below_drewN | apply below_drew1) | exact HB.out))))
                            have n1_ := Aside0.mk (below_step (by repeat (first | (with_reducible first | exact HB.out | apply below_alloc | apply pw_below_drewN | apply below_drew1) | exact HB.out)) hb)
                            clear HB
                            have HO305 := n0_
                            have HB := n1_
                            clear n0_ n1_
                            clear hb ho14
                            refine hK.out _ _ trivial (fun hHeld => ?_)
                            clear hK K
                            refine norm_ (a' := ?_) ?_ ?_
                            rotate_left
                            · show Act.put _ (some 34) _ = _
                              simp only [Act.put, List.setIfInBounds_toArray, List.set_cons_zero, List.set_cons_succ, i64_w, i32_w]
                              rfl
                            exact norm_ (by first | (simp only [putAll, Act.put, List.setIfInBounds_toArray, List.set_cons_zero, List.set_cons_succ]; done) | (simp only [putAll, Act.put, List.setIfInBounds_toArray, List.set_cons_zero, List.set_cons_succ]; rfl)) (hJ8 (v304) _ ⟨(by (with_reducible repeat (first | apply Kd.R_alloc | apply Kd.R_drewN | apply Kd.R_drew)); exact HO305.out), (by repeat (first | (with_reducible first | exact HB.out | apply below_alloc | apply pw_below_drewN | apply below_drew1) | exact HB.out))⟩)
                        · skip
                          rintro v304 w15 ⟨h0_, h1_⟩
                          have n0_ : Aside0 (Kd.R (Kd.int .u8) 5 w15 w.heap.size (fun _ => True) v304 y303) := ⟨h0_⟩
                          have n1_ : Aside0 (Below w.heap.size w w15) := ⟨h1_⟩
                          clear HB
                          clear h0_ h1_
                          have HO305 := n0_
                          have HB := n1_
                          clear n0_ n1_
                          have hHeld := trivial
                          refine norm_ (a' := ?_) ?_ ?_
                          rotate_left
                          · simp only [putAll, Act.put, List.setIfInBounds_toArray, List.set_cons_zero, List.set_cons_succ]
                            rfl
                          refine two_ (i := 4) (j := 9) (Ni := some 30) (Nj := some 35) #[true, true, true, true, true, false, true, true, true, false, false, false] #[true, true, true, true, false, false, true, true, true, true, false, false] rfl rfl rfl rfl (two_of HT_.out (by kernel_rfl)) (by decide) (by decide) (fun K hK => ?_) (fun K hK => ?_)
                          · skip
                            refine Kd.R_lit_step (Kd.int .u8) _ 5 ?hg (N := 30) ?hd (xs := ([(wrap64 (2 + (Int.tmod (wrap64 (a0)) 254))) % 256, (wrap64 (2 + (wrap64 (Int.tmod a1 39)))) % 256] : List Int)) (inner := [.int .u8 ((wrap64 (2 + (Int.tmod (wrap64 (a0)) 254))) % 256), .int .u8 ((wrap64 (2 + (wrap64 (Int.tmod a1 39)))) % 256)]) (ok := fun _ => True) (okp := fun _ => True) ?hr ?hp (fun _ hk => hk) trivial (Below.refl _ _) (Nat.le_refl _) (by simp) ?_; (case hd => rfl); (case hg => rfl); (case hr => first | (go_simp; done) | (go_simp; rfl)); (case hp => exact (Reps.one (show Kd.M (Kd.int .u8) _ _ _ ((wrap64 (2 + (Int.tmod (wrap64 (a0)) 254))) % 256) [.int .u8 ((wrap64 (2 + (Int.tmod (wrap64 (a0)) 254))) % 256)] from rfl) (Reps.one (show Kd.M (Kd.int .u8) _ _ _ ((wrap64 (2 + (wrap64 (Int.tmod a1 39)))) % 256) [.int .u8 ((wrap64 (2 + (wrap64 (Int.tmod a1 39)))) % 256)] from rfl) (Reps.none _ _))))
                            intro v301 w16 ho17 hb hg_ hnew_
                            clear hg_ hnew_
                            (first | rw [← Ny300.out] at ho17 | (simp only [Int.reduceToNat] at ho17; rw [← Ny300.out] at ho17))
                            have n0_ := Aside0.mk (Kd.R_elder' (by (with_reducible repeat (first | apply Kd.R_alloc | apply Kd.R_drewN | apply Kd.R_drew)); exact HO305.out) (Kd.R_base ho17) hb)
                            have n1_ := Aside0.mk (Kd.R_lower (Kd.R_new' ho17 (Kd.R_lt (by (with_reducible repeat (first | apply Kd.R_alloc | apply Kd.R_drewN | apply Kd.R_drew)); exact HO305.out))) (below_size (by repeat (first | (with_reducible first | exact HB.out | apply below_alloc | apply pw_below_drewN | apply below_drew1) | exact HB.out))))
                            have n2_ := Aside0.mk (below_step (by repeat (first | (with_reducible first | exact HB.out | apply below_alloc | apply pw_below_drewN | apply below_drew1) | exact HB.out)) hb)
                            clear HO305
                            clear HB
                            have HO305 := n0_
                            have HO302 := n1_
                            have HB := n2_
                            clear n0_ n1_ n2_
                            clear hb ho17
                            refine hK.out _ _ trivial (fun hHeld => ?_)
                            clear hK K
                            refine norm_ (a' := ?_) ?_ ?_
                            rotate_left
                            · show Act.put _ (some 30) _ = _
                              simp only [Act.put, List.setIfInBounds_toArray, List.set_cons_zero, List.set_cons_succ, i64_w, i32_w]
                              rfl
                            exact norm_ (by first | (simp only [putAll, Act.put, List.setIfInBounds_toArray, List.set_cons_zero, List.set_cons_succ]; done) | (simp only [putAll, Act.put, List.setIfInBounds_toArray, List.set_cons_zero, List.set_cons_succ]; rfl)) (hJ4_8 (v301, v304) _ ⟨(by (with_reducible repeat (first | apply Kd.R_alloc | apply Kd.R_drewN | apply Kd.R_drew)); exact Kd.R_mono HO302.out (fun _ hk => hk.2)), (by (with_reducible repeat (first | apply Kd.R_alloc | apply Kd.R_drewN | apply Kd.R_drew)); exact Kd.R_mono HO305.out (fun _ hk => hk.2)), (by repeat (first | (with_reducible first | exact HB.out | apply below_alloc | apply pw_below_drewN | apply below_drew1) | exact HB.out))⟩)
                          · skip
                            have hcv16 := own_string (P := Try.prog) Try.underlying42 Try.underlying5 Try.underlying9 (Kd.own_of_R HO305.out)
                            refine value_ (w1 := ?_) (v := ?_) (by rfl) rfl ?_ ?_
                            rotate_left 2
                            · go_simp
                              constructor
                              · rfl
                              · rfl
                            clear hcv16
                            refine hK.out _ _ trivial (fun hHeld => ?_)
                            clear hK K
                            refine norm_ (a' := ?_) ?_ ?_
                            rotate_left
                            · show Act.put _ (some 35) _ = _
                              simp only [Act.put, List.setIfInBounds_toArray, List.set_cons_zero, List.set_cons_succ, i64_w, i32_w]
                              rfl
                            exact norm_ (by first | (simp only [putAll, Act.put, List.setIfInBounds_toArray, List.set_cons_zero, List.set_cons_succ]; done) | (simp only [putAll, Act.put, List.setIfInBounds_toArray, List.set_cons_zero, List.set_cons_succ]; rfl)) (hJ8_9 (v304) _ ⟨(by (with_reducible repeat (first | apply Kd.R_alloc | apply Kd.R_drewN | apply Kd.R_drew)); exact HO305.out), (by repeat (first | (with_reducible first | exact HB.out | apply below_alloc | apply pw_below_drewN | apply below_drew1) | exact HB.out))⟩)
                      · skip
                        rintro v301 w15 ⟨h0_, h1_⟩
                        have n0_ : Aside0 (Kd.R (Kd.int .u8) 5 w15 w.heap.size (fun _ => True) v301 y300) := ⟨h0_⟩
                        have n1_ : Aside0 (Below w.heap.size w w15) := ⟨h1_⟩
                        clear HB
                        clear h0_ h1_
                        have HO302 := n0_
                        have HB := n1_
                        clear n0_ n1_
                        have hHeld := trivial
                        refine norm_ (a' := ?_) ?_ ?_
                        rotate_left
                        · simp only [putAll, Act.put, List.setIfInBounds_toArray, List.set_cons_zero, List.set_cons_succ]
                          rfl
                        refine two_ (i := 5) (j := 8) (Ni := some 31) (Nj := some 34) #[true, true, true, true, true, true, true, true, false, false, false, false] #[true, true, true, true, true, false, true, true, true, false, false, false] rfl rfl rfl rfl (two_of HT_.out (by kernel_rfl)) (by decide) (by decide) (fun K hK => ?_) (fun K hK => ?_)
                        · skip
                          have hcv16 := own_string (P := Try.prog) Try.underlying42 Try.underlying5 Try.underlying9 (Kd.own_of_R HO302.out)
                          refine value_ (w1 := ?_) (v := ?_) (by rfl) rfl ?_ ?_
                          rotate_left 2
                          · go_simp
                            constructor
                            · rfl
                            · rfl
                          clear hcv16
                          refine hK.out _ _ trivial (fun hHeld => ?_)
                          clear hK K
                          refine norm_ (a' := ?_) ?_ ?_
                          rotate_left
                          · show Act.put _ (some 31) _ = _
                            simp only [Act.put, List.setIfInBounds_toArray, List.set_cons_zero, List.set_cons_succ, i64_w, i32_w]
                            rfl
                          exact norm_ (by first | (simp only [putAll, Act.put, List.setIfInBounds_toArray, List.set_cons_zero, List.set_cons_succ]; done) | (simp only [putAll, Act.put, List.setIfInBounds_toArray, List.set_cons_zero, List.set_cons_succ]; rfl)) (hJ4_5 (v301) _ ⟨(by (with_reducible repeat (first | apply Kd.R_alloc | apply Kd.R_drewN | apply Kd.R_drew)); exact HO302.out), (by repeat (first | (with_reducible first | exact HB.out | apply below_alloc | apply pw_below_drewN | apply below_drew1) | exact HB.out))⟩)
                        · skip
                          refine Kd.R_make_step (Kd.int .u8) _ 5 (by rfl) (N := 34) rfl 42 _ _ rfl ji7 rfl rfl Try.underlying42 (.int .u8 0) 1 info5 rfl (by decide) (by omega) 0 (ok := fun _ => True) (okp := fun _ => True) rfl (fun _ hk => hk) trivial (of_decide_eq_true (by first | (with_reducible assumption) | assumption)) (Nat.le_trans (Nat.mul_le_mul_right _ (of_decide_eq_true (by first | (with_reducible assumption) | assumption) : ji7.toNat ≤ 281474976710656)) (by omega)) (Below.refl _ _) (Nat.le_refl _) ?_
                          intro v304 w16 ho17 hb hg_ hnew_
                          clear hg_ hnew_
                          (first | rw [← Ny303.out] at ho17 | (simp only [Int.reduceToNat] at ho17; rw [← Ny303.out] at ho17))
                          have n0_ := Aside0.mk (Kd.R_elder' (by (with_reducible repeat (first | apply Kd.R_alloc | apply Kd.R_drewN | apply Kd.R_drew)); exact HO302.out) (Kd.R_base ho17) hb)
                          have n1_ := Aside0.mk (Kd.R_lower (Kd.R_new' ho17 (Kd.R_lt (by (with_reducible repeat (first | apply Kd.R_alloc | apply Kd.R_drewN | apply Kd.R_drew)); exact HO302.out))) (below_size (by repeat (first | (with_reducible first | exact HB.out | apply below_alloc | apply pw_below_drewN | apply below_drew1) | exact HB.out))))
                          have n2_ := Aside0.mk (below_step (by repeat (first | (with_reducible first | exact HB.out | apply below_alloc | apply pw_below_drewN | apply below_drew1) | exact HB.out)) hb)
                          clear HO302
                          clear HB
                          have HO302 := n0_
                          have HO305 := n1_
                          have HB := n2_
                          clear n0_ n1_ n2_
                          clear hb ho17
                          refine hK.out _ _ trivial (fun hHeld => ?_)
                          clear hK K
                          refine norm_ (a' := ?_) ?_ ?_
                          rotate_left
                          · show Act.put _ (some 34) _ = _
                            simp only [Act.put, List.setIfInBounds_toArray, List.set_cons_zero, List.set_cons_succ, i64_w, i32_w]
                            rfl
                          exact norm_ (by first | (simp only [putAll, Act.put, List.setIfInBounds_toArray, List.set_cons_zero, List.set_cons_succ]; done) | (simp only [putAll, Act.put, List.setIfInBounds_toArray, List.set_cons_zero, List.set_cons_succ]; rfl)) (hJ4_8 (v301, v304) _ ⟨(by (with_reducible repeat (first | apply Kd.R_alloc | apply Kd.R_drewN | apply Kd.R_drew)); exact Kd.R_mono HO302.out (fun _ hk => hk.2)), (by (with_reducible repeat (first | apply Kd.R_alloc | apply Kd.R_drewN | apply Kd.R_drew)); exact Kd.R_mono HO305.out (fun _ hk => hk.2)), (by repeat (first | (with_reducible first | exact HB.out | apply below_alloc | apply pw_below_drewN | apply below_drew1) | exact HB.out))⟩)
                    · skip
                      rintro v304 w16 ⟨h0_, h1_⟩
                      have n0_ : Aside0 (Kd.R (Kd.int .u8) 5 w16 w.heap.size (fun _ => True) v304 y303) := ⟨h0_⟩
                      have n1_ : Aside0 (Below w.heap.size w w16) := ⟨h1_⟩
                      clear HB
                      clear h0_ h1_
                      have HO305 := n0_
                      have HB := n1_
                      clear n0_ n1_
                      have hHeld := trivial
                      refine norm_ (a' := ?_) ?_ ?_
                      rotate_left
                      · simp only [putAll, Act.put, List.setIfInBounds_toArray, List.set_cons_zero, List.set_cons_succ]
                        rfl
                      refine one_ (i := 4) (N := some 30) #[true, true, true, true, true, false, true, true, true, true, false, false] rfl rfl (one_of HT_.out (by kernel_rfl)) (by decide) (fun K hK => ?_)
                      refine Kd.R_lit_step (Kd.int .u8) _ 5 ?hg (N := 30) ?hd (xs := ([(wrap64 (2 + (Int.tmod (wrap64 (a0)) 254))) % 256, (wrap64 (2 + (wrap64 (Int.tmod a1 39)))) % 256] : List Int)) (inner := [.int .u8 ((wrap64 (2 + (Int.tmod (wrap64 (a0)) 254))) % 256), .int .u8 ((wrap64 (2 + (wrap64 (Int.tmod a1 39)))) % 256)]) (ok := fun _ => True) (okp := fun _ => True) ?hr ?hp (fun _ hk => hk) trivial (Below.refl _ _) (Nat.le_refl _) (by simp) ?_; (case hd => rfl); (case hg => rfl); (case hr => first | (go_simp; done) | (go_simp; rfl)); (case hp => exact (Reps.one (show Kd.M (Kd.int .u8) _ _ _ ((wrap64 (2 + (Int.tmod (wrap64 (a0)) 254))) % 256) [.int .u8 ((wrap64 (2 + (Int.tmod (wrap64 (a0)) 254))) % 256)] from rfl) (Reps.one (show Kd.M (Kd.int .u8) _ _ _ ((wrap64 (2 + (wrap64 (Int.tmod a1 39)))) % 256) [.int .u8 ((wrap64 (2 + (wrap64 (Int.tmod a1 39)))) % 256)] from rfl) (Reps.none _ _))))
                      intro v301 w17 ho18 hb hg_ hnew_
                      clear hg_ hnew_
                      (first | rw [← Ny300.out] at ho18 | (simp only [Int.reduceToNat] at ho18; rw [← Ny300.out] at ho18))
                      have n0_ := Aside0.mk (Kd.R_elder' (by (with_reducible repeat (first | apply Kd.R_alloc | apply Kd.R_drewN | apply Kd.R_drew)); exact HO305.out) (Kd.R_base ho18) hb)
                      have n1_ := Aside0.mk (Kd.R_lower (Kd.R_new' ho18 (Kd.R_lt (by (with_reducible repeat (first | apply Kd.R_alloc | apply Kd.R_drewN | apply Kd.R_drew)); exact HO305.out))) (below_size (by repeat (first | (with_reducible first | exact HB.out | apply below_alloc | apply pw_below_drewN | apply below_drew1) | exact HB.out))))
                      have n2_ := Aside0.mk (below_step (by repeat (first | (with_reducible first | exact HB.out | apply below_alloc | apply pw_below_drewN | apply below_drew1) | exact HB.out)) hb)
                      clear HO305
                      clear HB
                      have HO305 := n0_
                      have HO302 := n1_
                      have HB := n2_
                      clear n0_ n1_ n2_
                      clear hb ho18
                      refine hK.out _ _ trivial (fun hHeld => ?_)
                      clear hK K
                      refine norm_ (a' := ?_) ?_ ?_
                      rotate_left
                      · show Act.put _ (some 30) _ = _
                        simp only [Act.put, List.setIfInBounds_toArray, List.set_cons_zero, List.set_cons_succ, i64_w, i32_w]
                        rfl
                      exact norm_ (by first | (simp only [putAll, Act.put, List.setIfInBounds_toArray, List.set_cons_zero, List.set_cons_succ]; done) | (simp only [putAll, Act.put, List.setIfInBounds_toArray, List.set_cons_zero, List.set_cons_succ]; rfl)) (hJ4_8_9 (v301, v304) _ ⟨(by (with_reducible repeat (first | apply Kd.R_alloc | apply Kd.R_drewN | apply Kd.R_drew)); exact Kd.R_mono HO302.out (fun _ hk => hk.2)), (by (with_reducible repeat (first | apply Kd.R_alloc | apply Kd.R_drewN | apply Kd.R_drew)); exact Kd.R_mono HO305.out (fun _ hk => hk.2)), (by repeat (first | (with_reducible first | exact HB.out | apply below_alloc | apply pw_below_drewN | apply below_drew1) | exact HB.out))⟩)
                  · skip
                    rintro ⟨v301, v304⟩ w17 ⟨h0_, h1_, h2_⟩
                    have n0_ : Aside0 (Kd.R (Kd.int .u8) 5 w17 w.heap.size (fun k_ => some k_ ≠ (v304 : Value).ownBlock) v301 y300) := ⟨h0_⟩
                    have n1_ : Aside0 (Kd.R (Kd.int .u8) 5 w17 w.heap.size (fun k_ => some k_ ≠ (v301 : Value).ownBlock) v304 y303) := ⟨h1_⟩
                    have n2_ : Aside0 (Below w.heap.size w w17) := ⟨h2_⟩
                    clear HB
                    clear h0_ h1_ h2_
                    have HO302 := n0_
                    have HO305 := n1_
                    have HB := n2_
                    clear n0_ n1_ n2_
                    have hHeld := trivial
                    refine norm_ (a' := ?_) ?_ ?_
                    rotate_left
                    · simp only [putAll, Act.put, List.setIfInBounds_toArray, List.set_cons_zero, List.set_cons_succ]
                      rfl
                    refine two_ (i := 5) (j := 9) (Ni := some 31) (Nj := some 35) #[true, true, true, true, true, true, true, true, true, false, false, false] #[true, true, true, true, true, false, true, true, true, true, false, false] rfl rfl rfl rfl (two_of HT_.out (by kernel_rfl)) (by decide) (by decide) (fun K hK => ?_) (fun K hK => ?_)
                    · skip
                      have hcv18 := own_string (P := Try.prog) Try.underlying42 Try.underlying5 Try.underlying9 (Kd.own_of_R HO302.out)
                      refine value_ (w1 := ?_) (v := ?_) (by rfl) rfl ?_ ?_
                      rotate_left 2
                      · go_simp
                        constructor
                        · rfl
                        · rfl
                      clear hcv18
                      refine hK.out _ _ trivial (fun hHeld => ?_)
                      clear hK K
                      refine norm_ (a' := ?_) ?_ ?_
                      rotate_left
                      · show Act.put _ (some 31) _ = _
                        simp only [Act.put, List.setIfInBounds_toArray, List.set_cons_zero, List.set_cons_succ, i64_w, i32_w]
                        rfl
                      exact norm_ (by first | (simp only [putAll, Act.put, List.setIfInBounds_toArray, List.set_cons_zero, List.set_cons_succ]; done) | (simp only [putAll, Act.put, List.setIfInBounds_toArray, List.set_cons_zero, List.set_cons_succ]; rfl)) (hJ4_5_8 (v301, v304) _ ⟨(by (with_reducible repeat (first | apply Kd.R_alloc | apply Kd.R_drewN | apply Kd.R_drew)); exact HO302.out), (by (with_reducible repeat (first | apply Kd.R_alloc | apply Kd.R_drewN | apply Kd.R_drew)); exact HO305.out), (by repeat (first | (with_reducible first | exact HB.out | apply below_alloc | apply pw_below_drewN | apply below_drew1) | exact HB.out))⟩)
                    · skip
                      have hcv18 := own_string (P := Try.prog) Try.underlying42 Try.underlying5 Try.underlying9 (Kd.own_of_R HO305.out)
                      refine value_ (w1 := ?_) (v := ?_) (by rfl) rfl ?_ ?_
                      rotate_left 2
                      · go_simp
                        constructor
                        · rfl
                        · rfl
                      clear hcv18
                      refine hK.out _ _ trivial (fun hHeld => ?_)
                      clear hK K
                      refine norm_ (a' := ?_) ?_ ?_
                      rotate_left
                      · show Act.put _ (some 35) _ = _
                        simp only [Act.put, List.setIfInBounds_toArray, List.set_cons_zero, List.set_cons_succ, i64_w, i32_w]
                        rfl
                      exact norm_ (by first | (simp only [putAll, Act.put, List.setIfInBounds_toArray, List.set_cons_zero, List.set_cons_succ]; done) | (simp only [putAll, Act.put, List.setIfInBounds_toArray, List.set_cons_zero, List.set_cons_succ]; rfl)) (hJ4_8_9 (v301, v304) _ ⟨(by (with_reducible repeat (first | apply Kd.R_alloc | apply Kd.R_drewN | apply Kd.R_drew)); exact HO302.out), (by (with_reducible repeat (first | apply Kd.R_alloc | apply Kd.R_drewN | apply Kd.R_drew)); exact HO305.out), (by repeat (first | (with_reducible first | exact HB.out | apply below_alloc | apply pw_below_drewN | apply below_drew1) | exact HB.out))⟩)
                · skip
                  rintro v301 w16 ⟨h0_, h1_⟩
                  have n0_ : Aside0 (Kd.R (Kd.int .u8) 5 w16 w.heap.size (fun _ => True) v301 y300) := ⟨h0_⟩
                  have n1_ : Aside0 (Below w.heap.size w w16) := ⟨h1_⟩
                  clear HB
                  clear h0_ h1_
                  have HO302 := n0_
                  have HB := n1_
                  clear n0_ n1_
                  have hHeld := trivial
                  refine norm_ (a' := ?_) ?_ ?_
                  rotate_left
                  · simp only [putAll, Act.put, List.setIfInBounds_toArray, List.set_cons_zero, List.set_cons_succ]
                    rfl
                  refine one_ (i := 8) (N := some 34) #[true, true, true, true, true, true, true, true, true, false, false, false] rfl rfl (one_of HT_.out (by kernel_rfl)) (by decide) (fun K hK => ?_)
                  refine Kd.R_make_step (Kd.int .u8) _ 5 (by rfl) (N := 34) rfl 42 _ _ rfl ji7 rfl rfl Try.underlying42 (.int .u8 0) 1 info5 rfl (by decide) (by omega) 0 (ok := fun _ => True) (okp := fun _ => True) rfl (fun _ hk => hk) trivial (of_decide_eq_true (by first | (with_reducible assumption) | assumption)) (Nat.le_trans (Nat.mul_le_mul_right _ (of_decide_eq_true (by first | (with_reducible assumption) | assumption) : ji7.toNat ≤ 281474976710656)) (by omega)) (Below.refl _ _) (Nat.le_refl _) ?_
                  intro v304 w17 ho18 hb hg_ hnew_
                  clear hg_ hnew_
                  (first | rw [← Ny303.out] at ho18 | (simp only [Int.reduceToNat] at ho18; rw [← Ny303.out] at ho18))
                  have n0_ := Aside0.mk (Kd.R_elder' (by (with_reducible repeat (first | apply Kd.R_alloc | apply Kd.R_drewN | apply Kd.R_drew)); exact HO302.out) (Kd.R_base ho18) hb)
                  have n1_ := Aside0.mk (Kd.R_lower (Kd.R_new' ho18 (Kd.R_lt (by (with_reducible repeat (first | apply Kd.R_alloc | apply Kd.R_drewN | apply Kd.R_drew)); exact HO302.out))) (below_size (by repeat (first | (with_reducible first | exact HB.out | apply below_alloc | apply pw_below_drewN | apply below_drew1) | exact HB.out))))
                  have n2_ := Aside0.mk (below_step (by repeat (first | (with_reducible first | exact HB.out | apply below_alloc | apply pw_below_drewN | apply below_drew1) | exact HB.out)) hb)
                  clear HO302
                  clear HB
                  have HO302 := n0_
                  have HO305 := n1_
                  have HB := n2_
                  clear n0_ n1_ n2_
                  clear hb ho18
                  refine hK.out _ _ trivial (fun hHeld => ?_)
                  clear hK K
                  refine norm_ (a' := ?_) ?_ ?_
                  rotate_left
                  · show Act.put _ (some 34) _ = _
                    simp only [Act.put, List.setIfInBounds_toArray, List.set_cons_zero, List.set_cons_succ, i64_w, i32_w]
                    rfl
                  exact norm_ (by first | (simp only [putAll, Act.put, List.setIfInBounds_toArray, List.set_cons_zero, List.set_cons_succ]; done) | (simp only [putAll, Act.put, List.setIfInBounds_toArray, List.set_cons_zero, List.set_cons_succ]; rfl)) (hJ4_5_8 (v301, v304) _ ⟨(by (with_reducible repeat (first | apply Kd.R_alloc | apply Kd.R_drewN | apply Kd.R_drew)); exact Kd.R_mono HO302.out (fun _ hk => hk.2)), (by (with_reducible repeat (first | apply Kd.R_alloc | apply Kd.R_drewN | apply Kd.R_drew)); exact Kd.R_mono HO305.out (fun _ hk => hk.2)), (by repeat (first | (with_reducible first | exact HB.out | apply below_alloc | apply pw_below_drewN | apply below_drew1) | exact HB.out))⟩)
              · skip
                rintro ⟨v301, v304⟩ w18 ⟨h0_, h1_, h2_⟩
                have n0_ : Aside0 (Kd.R (Kd.int .u8) 5 w18 w.heap.size (fun k_ => some k_ ≠ (v304 : Value).ownBlock) v301 y300) := ⟨h0_⟩
                have n1_ : Aside0 (Kd.R (Kd.int .u8) 5 w18 w.heap.size (fun k_ => some k_ ≠ (v301 : Value).ownBlock) v304 y303) := ⟨h1_⟩
                have n2_ : Aside0 (Below w.heap.size w w18) := ⟨h2_⟩
                clear HB
                clear h0_ h1_ h2_
                have HO302 := n0_
                have HO305 := n1_
                have HB := n2_
                clear n0_ n1_ n2_
                have hHeld := trivial
                refine norm_ (a' := ?_) ?_ ?_
                rotate_left
                · simp only [putAll, Act.put, List.setIfInBounds_toArray, List.set_cons_zero, List.set_cons_succ]
                  rfl
                refine one_ (i := 5) (N := some 31) #[true, true, true, true, true, true, true, true, true, true, false, false] rfl rfl (one_of HT_.out (by kernel_rfl)) (by decide) (fun K hK => ?_)
                have hcv19 := own_string (P := Try.prog) Try.underlying42 Try.underlying5 Try.underlying9 (Kd.own_of_R HO302.out)
                refine value_ (w1 := ?_) (v := ?_) (by rfl) rfl ?_ ?_
                rotate_left 2
                · go_simp
                  constructor
                  · rfl
                  · rfl
                clear hcv19
                refine hK.out _ _ trivial (fun hHeld => ?_)
                clear hK K
                refine norm_ (a' := ?_) ?_ ?_
                rotate_left
                · show Act.put _ (some 31) _ = _
                  simp only [Act.put, List.setIfInBounds_toArray, List.set_cons_zero, List.set_cons_succ, i64_w, i32_w]
                  rfl
                exact norm_ (by first | (simp only [putAll, Act.put, List.setIfInBounds_toArray, List.set_cons_zero, List.set_cons_succ]; done) | (simp only [putAll, Act.put, List.setIfInBounds_toArray, List.set_cons_zero, List.set_cons_succ]; rfl)) (hJ4_5_8_9 (v301, v304) _ ⟨(by (with_reducible repeat (first | apply Kd.R_alloc | apply Kd.R_drewN | apply Kd.R_drew)); exact HO302.out), (by (with_reducible repeat (first | apply Kd.R_alloc | apply Kd.R_drewN | apply Kd.R_drew)); exact HO305.out), (by repeat (first | (with_reducible first | exact HB.out | apply below_alloc | apply pw_below_drewN | apply below_drew1) | exact HB.out))⟩)
            · skip
              rintro ⟨v301, v304⟩ w18 ⟨h0_, h1_, h2_⟩
              have n0_ : Aside0 (Kd.R (Kd.int .u8) 5 w18 w.heap.size (fun k_ => some k_ ≠ (v304 : Value).ownBlock) v301 y300) := ⟨h0_⟩
              have n1_ : Aside0 (Kd.R (Kd.int .u8) 5 w18 w.heap.size (fun k_ => some k_ ≠ (v301 : Value).ownBlock) v304 y303) := ⟨h1_⟩
              have n2_ : Aside0 (Below w.heap.size w w18) := ⟨h2_⟩
              clear HB
              clear h0_ h1_ h2_
              have HO302 := n0_
              have HO305 := n1_
              have HB := n2_
              clear n0_ n1_ n2_
              have hHeld := trivial
              refine norm_ (a' := ?_) ?_ ?_
              rotate_left
              · simp only [putAll, Act.put, List.setIfInBounds_toArray, List.set_cons_zero, List.set_cons_succ]
                rfl
              refine one_ (i := 9) (N := some 35) #[true, true, true, true, true, true, true, true, true, true, false, false] rfl rfl (one_of HT_.out (by kernel_rfl)) (by decide) (fun K hK => ?_)
              have hcv19 := own_string (P := Try.prog) Try.underlying42 Try.underlying5 Try.underlying9 (Kd.own_of_R HO305.out)
              refine value_ (w1 := ?_) (v := ?_) (by rfl) rfl ?_ ?_
              rotate_left 2
              · go_simp
                constructor
                · rfl
                · rfl
              clear hcv19
              refine hK.out _ _ trivial (fun hHeld => ?_)
              clear hK K
              refine norm_ (a' := ?_) ?_ ?_
              rotate_left
              · show Act.put _ (some 35) _ = _
                simp only [Act.put, List.setIfInBounds_toArray, List.set_cons_zero, List.set_cons_succ, i64_w, i32_w]
                rfl
              exact norm_ (by first | (simp only [putAll, Act.put, List.setIfInBounds_toArray, List.set_cons_zero, List.set_cons_succ]; done) | (simp only [putAll, Act.put, List.setIfInBounds_toArray, List.set_cons_zero, List.set_cons_succ]; rfl)) (hJ4_5_8_9 (v301, v304) _ ⟨(by (with_reducible repeat (first | apply Kd.R_alloc | apply Kd.R_drewN | apply Kd.R_drew)); exact HO302.out), (by (with_reducible repeat (first | apply Kd.R_alloc | apply Kd.R_drewN | apply Kd.R_drew)); exact HO305.out), (by repeat (first | (with_reducible first | exact HB.out | apply below_alloc | apply pw_below_drewN | apply below_drew1) | exact HB.out))⟩)
          rintro ⟨v301, v304⟩ w19 ⟨h0_, h1_, h2_⟩
          have n0_ : Aside0 (Kd.R (Kd.int .u8) 5 w19 w.heap.size (fun k_ => some k_ ≠ (v304 : Value).ownBlock) v301 y300) := ⟨h0_⟩
          have n1_ : Aside0 (Kd.R (Kd.int .u8) 5 w19 w.heap.size (fun k_ => some k_ ≠ (v301 : Value).ownBlock) v304 y303) := ⟨h1_⟩
          have n2_ : Aside0 (Below w.heap.size w w19) := ⟨h2_⟩
          clear HB
          clear h0_ h1_ h2_
          have HO302 := n0_
          have HO305 := n1_
          have HB := n2_
          clear n0_ n1_ n2_
          have hHeld := trivial
          refine norm_ (a' := ?_) ?_ ?_
          rotate_left
          · simp only [putAll, Act.put, List.setIfInBounds_toArray, List.set_cons_zero, List.set_cons_succ]
            rfl
          refine pure_ (i := 10) (N := some 36) (v := ?_) (a' := ?_) #[true, true, true, true, true, true, true, true, true, true, true, false] rfl rfl (any_of HT_.out (by kernel_rfl)) (fun _ _ _ h => h) (Or.inl ⟨by rfl, ?_⟩) ?_ ?_
          rotate_left
          · intro w'
            go_simp
            with_reducible rfl
          rotate_left
          · simp only [Act.put, List.setIfInBounds_toArray, List.set_cons_zero, List.set_cons_succ, i64_w, i32_w]
            rfl
          refine pure_ (i := 11) (N := some 12) (v := ?_) (a' := ?_) #[true, true, true, true, true, true, true, true, true, true, true, true] rfl rfl (any_of HT_.out (by kernel_rfl)) (fun _ _ _ h => h) (Or.inl ⟨by rfl, ?_⟩) ?_ ?_
          rotate_left
          · intro w'
            go_simp
            with_reducible rfl
          rotate_left
          · simp only [Act.put, List.setIfInBounds_toArray, List.set_cons_zero, List.set_cons_succ, i64_w, i32_w]
            rfl
          refine done_ (done_of HT_.out (by kernel_rfl)) ?_
          try go_wp2
          go_loopg [13, 14] k (fun kq v13 v14 w' => ∃ (x13_1 : ByteArray) (x14_1 : Int), v13 = .string x13_1 ∧ v14 = .int .i64 x14_1 ∧ Aside0 (weighbridgelaw04_Ip4Options.l0 kq a2 a3 true (wrap64 (2 + (Int.tmod (wrap64 (a0)) 254))) ((strOfNums y300) ++ (strOfNums y303)) x13_1 x14_1 = some r) ∧ Aside0 (kq ≤ k) ∧ Aside0 (Below w.heap.size w w'))
          case atStart => exact ⟨((⟨#[1]⟩ : ByteArray)), (0), (by first | rfl | (simp; done) | (simp [*]; done)), (by first | rfl | (simp; done) | (simp [*]; done)), H', ⟨Nat.le_refl _⟩, ⟨by repeat (first | (with_reducible first | exact HB.out | apply below_alloc | apply pw_below_drewN | apply below_drew1) | exact HB.out)⟩⟩
          case round =>
            clear H'
            try clear c1
            try clear hcv1
            try clear p2
            try clear p4
            try clear c6
            try clear p6
            try clear c8
            try clear c8b0
            try clear c8b1
            try clear c9
            try clear c9b0
            try clear c9b1
            try clear c10
            try clear c10b0
            try clear c10b1
            try clear c10b2
            try clear hcv16
            try clear hcv18
            try clear hcv19
            obtain ⟨x13_1, x14_1, rfl, rfl, HA, HK1, HB⟩ := hrel
            cases gk with
            | zero => exact absurd HA.out (by simp [weighbridgelaw04_Ip4Options.l0])
            | succ k1 =>
              have H := HA.out
              clear HA
              simp only [weighbridgelaw04_Ip4Options.l0] at H
              by_cases c20 : x14_1 < (wrap64 (Int.tmod a2 4))
              · rw [if_pos c20] at H
                have c20b0 : decide (x14_1 < (wrap64 (Int.tmod a2 4))) = true := decide_eq_true c20
                clear c20
                by_cases c21 : x13_1.size + ((strOfNums y300) ++ (strOfNums y303)).size ≤ 9223372036854775807
                · rw [if_pos c21] at H
                  have c21b0 := eq_true c21
                  have c21b1 : decide (x13_1.size + ((strOfNums y300) ++ (strOfNums y303)).size ≤ 9223372036854775807) = true := decide_eq_true c21
                  try have c21b2 : (9223372036854775807 < x13_1.size + ((strOfNums y300) ++ (strOfNums y303)).size) = False := eq_false (Nat.not_lt.2 c21)
                  (try (have c21r := c21; (repeat rw [ByteArray.size_append] at c21r); (repeat rw [ByteArray.size_extract] at c21r); (repeat rw [Nat.sub_zero] at c21r); (repeat rw [Nat.min_self] at c21r); have c21rt := eq_true c21r; have c21ru := eq_false (Nat.not_lt.mpr c21r); clear c21r))
                  (try (have c21s := c21; simp [c8b0, c9b0, c10b0] at c21s; have c21t := eq_true c21s; have c21u := eq_false (Nat.not_lt.mpr c21s); clear c21s))
                  have H' := Aside0.mk H
                  clear H
                  go_wp2
                  go_roundg k1
                  case measure => have := HK1.out; omega
                  case rel => exact ⟨(x13_1 ++ ((strOfNums y300) ++ (strOfNums y303))), (wrap64 (x14_1 + 1)), (by first | rfl | (simp; done) | (congr 2; simp only [ByteArray.size_extract, ByteArray.size_append]; (try have := of_eq_true c8b0); (try have := of_eq_true c9b0); (try have := of_eq_true c10b0); (try have := of_eq_true c21b0); (try unfold wrap64); omega) | (simp only [ByteArray.size_extract, ByteArray.size_append, Nat.sub_zero]; done) | (congr 1; simp only [ByteArray.size_extract, ByteArray.size_append, Nat.sub_zero]; (try have := of_eq_true c8b0); (try have := of_eq_true c9b0); (try have := of_eq_true c10b0); (try have := of_eq_true c21b0); omega) | (simp [*]; done)), (by first | rfl | (simp; done) | (congr 2; simp only [ByteArray.size_extract, ByteArray.size_append]; (try have := of_eq_true c8b0); (try have := of_eq_true c9b0); (try have := of_eq_true c10b0); (try have := of_eq_true c21b0); (try unfold wrap64); omega) | (simp only [ByteArray.size_extract, ByteArray.size_append, Nat.sub_zero]; done) | (congr 1; simp only [ByteArray.size_extract, ByteArray.size_append, Nat.sub_zero]; (try have := of_eq_true c8b0); (try have := of_eq_true c9b0); (try have := of_eq_true c10b0); (try have := of_eq_true c21b0); omega) | (simp [*]; done)), H', ⟨by have := HK1.out; omega⟩, ⟨by repeat (first | (with_reducible first | exact HB.out | apply below_alloc | apply pw_below_drewN | apply below_drew1) | exact HB.out)⟩⟩
                · rw [if_neg c21] at H
                  exact absurd H (by simp)
              · rw [if_neg c20] at H
                have c20b0 : decide (x14_1 < (wrap64 (Int.tmod a2 4))) = false := decide_eq_false c20
                clear c20
                have c22 : true = true := rfl
                · clear c22
                  have H1 : (if x13_1.size + ((strOfNums y300) ++ (strOfNums y303)).size ≤ 9223372036854775807 then ((ip4_OptsRight.f (x13_1 ++ ((strOfNums y300) ++ (strOfNums y303)))).bind fun t306 => (if t306 = true then (if x13_1.size + 1 ≤ 9223372036854775807 then (if (x13_1 ++ (⟨#[0]⟩ : ByteArray)).size + a3.size ≤ 9223372036854775807 then ((ip4_OptsRight.f ((x13_1 ++ (⟨#[0]⟩ : ByteArray)) ++ a3)).bind fun t307 => (if t307 = true then (if 0 ≤ (wrap64 ((((strOfNums y300) ++ (strOfNums y303)).size : Int) - 1)) then (if (wrap64 ((((strOfNums y300) ++ (strOfNums y303)).size : Int) - 1)) ≤ (((strOfNums y300) ++ (strOfNums y303)).size : Int) then (if x13_1.size + (((strOfNums y300) ++ (strOfNums y303)).extract 0 ((wrap64 ((((strOfNums y300) ++ (strOfNums y303)).size : Int) - 1)) : Int).toNat).size ≤ 9223372036854775807 then ((ip4_OptsRight.f (x13_1 ++ (((strOfNums y300) ++ (strOfNums y303)).extract 0 ((wrap64 ((((strOfNums y300) ++ (strOfNums y303)).size : Int) - 1)) : Int).toNat))).bind fun t308 => (if t308 = true then (some false) else ((some (([((wrap64 (2 + (Int.tmod (wrap64 (a0)) 254)))) % 256, 1] : List Int) : List Int)).bind fun y309 => (if x13_1.size + (strOfNums y309).size ≤ 9223372036854775807 then ((ip4_OptsRight.f (x13_1 ++ (strOfNums y309))).bind fun t312 => (if t312 = true then (some false) else ((some (([((wrap64 (2 + (Int.tmod (wrap64 (a0)) 254)))) % 256] : List Int) : List Int)).bind fun y313 => (if x13_1.size + (strOfNums y313).size ≤ 9223372036854775807 then ((ip4_OptsRight.f (x13_1 ++ (strOfNums y313))).bind fun t316 => (some (!t316))) else (none))))) else (none))))) else (none)) else (none)) else (none)) else (some false))) else (none)) else (none)) else (some false))) else (none)) = some r := by first | (rw [if_pos rfl] at H; exact H) | (rw [if_pos trivial] at H; exact H)
                  clear H
                  have H := H1
                  clear H1
                  by_cases c23 : x13_1.size + ((strOfNums y300) ++ (strOfNums y303)).size ≤ 9223372036854775807
                  · rw [if_pos c23] at H
                    have c23b0 := eq_true c23
                    have c23b1 : decide (x13_1.size + ((strOfNums y300) ++ (strOfNums y303)).size ≤ 9223372036854775807) = true := decide_eq_true c23
                    try have c23b2 : (9223372036854775807 < x13_1.size + ((strOfNums y300) ++ (strOfNums y303)).size) = False := eq_false (Nat.not_lt.2 c23)
                    (try (have c23r := c23; (repeat rw [ByteArray.size_append] at c23r); (repeat rw [ByteArray.size_extract] at c23r); (repeat rw [Nat.sub_zero] at c23r); (repeat rw [Nat.min_self] at c23r); have c23rt := eq_true c23r; have c23ru := eq_false (Nat.not_lt.mpr c23r); clear c23r))
                    (try (have c23s := c23; simp [c8b0, c9b0, c10b0] at c23s; have c23t := eq_true c23s; have c23u := eq_false (Nat.not_lt.mpr c23s); clear c23s))
                    replace H := Option.bind_eq_some_iff.mp H
                    obtain ⟨t306, A240, H⟩ := H
                    replace H : (if t306 = true then (if x13_1.size + 1 ≤ 9223372036854775807 then (if (x13_1 ++ (⟨#[0]⟩ : ByteArray)).size + a3.size ≤ 9223372036854775807 then ((ip4_OptsRight.f ((x13_1 ++ (⟨#[0]⟩ : ByteArray)) ++ a3)).bind fun t307 => (if t307 = true then (if 0 ≤ (wrap64 ((((strOfNums y300) ++ (strOfNums y303)).size : Int) - 1)) then (if (wrap64 ((((strOfNums y300) ++ (strOfNums y303)).size : Int) - 1)) ≤ (((strOfNums y300) ++ (strOfNums y303)).size : Int) then (if x13_1.size + (((strOfNums y300) ++ (strOfNums y303)).extract 0 ((wrap64 ((((strOfNums y300) ++ (strOfNums y303)).size : Int) - 1)) : Int).toNat).size ≤ 9223372036854775807 then ((ip4_OptsRight.f (x13_1 ++ (((strOfNums y300) ++ (strOfNums y303)).extract 0 ((wrap64 ((((strOfNums y300) ++ (strOfNums y303)).size : Int) - 1)) : Int).toNat))).bind fun t308 => (if t308 = true then (some false) else ((some (([((wrap64 (2 + (Int.tmod (wrap64 (a0)) 254)))) % 256, 1] : List Int) : List Int)).bind fun y309 => (if x13_1.size + (strOfNums y309).size ≤ 9223372036854775807 then ((ip4_OptsRight.f (x13_1 ++ (strOfNums y309))).bind fun t312 => (if t312 = true then (some false) else ((some (([((wrap64 (2 + (Int.tmod (wrap64 (a0)) 254)))) % 256] : List Int) : List Int)).bind fun y313 => (if x13_1.size + (strOfNums y313).size ≤ 9223372036854775807 then ((ip4_OptsRight.f (x13_1 ++ (strOfNums y313))).bind fun t316 => (some (!t316))) else (none))))) else (none))))) else (none)) else (none)) else (none)) else (some false))) else (none)) else (none)) else (some false)) = some r := H
                    have A24 := Aside0.mk A240
                    clear A240
                    by_cases c25 : t306 = true
                    · subst c25
                      have H1 : (if x13_1.size + 1 ≤ 9223372036854775807 then (if (x13_1 ++ (⟨#[0]⟩ : ByteArray)).size + a3.size ≤ 9223372036854775807 then ((ip4_OptsRight.f ((x13_1 ++ (⟨#[0]⟩ : ByteArray)) ++ a3)).bind fun t307 => (if t307 = true then (if 0 ≤ (wrap64 ((((strOfNums y300) ++ (strOfNums y303)).size : Int) - 1)) then (if (wrap64 ((((strOfNums y300) ++ (strOfNums y303)).size : Int) - 1)) ≤ (((strOfNums y300) ++ (strOfNums y303)).size : Int) then (if x13_1.size + (((strOfNums y300) ++ (strOfNums y303)).extract 0 ((wrap64 ((((strOfNums y300) ++ (strOfNums y303)).size : Int) - 1)) : Int).toNat).size ≤ 9223372036854775807 then ((ip4_OptsRight.f (x13_1 ++ (((strOfNums y300) ++ (strOfNums y303)).extract 0 ((wrap64 ((((strOfNums y300) ++ (strOfNums y303)).size : Int) - 1)) : Int).toNat))).bind fun t308 => (if t308 = true then (some false) else ((some (([((wrap64 (2 + (Int.tmod (wrap64 (a0)) 254)))) % 256, 1] : List Int) : List Int)).bind fun y309 => (if x13_1.size + (strOfNums y309).size ≤ 9223372036854775807 then ((ip4_OptsRight.f (x13_1 ++ (strOfNums y309))).bind fun t312 => (if t312 = true then (some false) else ((some (([((wrap64 (2 + (Int.tmod (wrap64 (a0)) 254)))) % 256] : List Int) : List Int)).bind fun y313 => (if x13_1.size + (strOfNums y313).size ≤ 9223372036854775807 then ((ip4_OptsRight.f (x13_1 ++ (strOfNums y313))).bind fun t316 => (some (!t316))) else (none))))) else (none))))) else (none)) else (none)) else (none)) else (some false))) else (none)) else (none)) = some r := by first | (rw [if_pos rfl] at H; exact H) | (rw [if_pos trivial] at H; exact H)
                      clear H
                      have H := H1
                      clear H1
                      by_cases c26 : x13_1.size + 1 ≤ 9223372036854775807
                      · rw [if_pos c26] at H
                        have c26b0 := eq_true c26
                        have c26b1 : decide (x13_1.size + 1 ≤ 9223372036854775807) = true := decide_eq_true c26
                        (try (have hzz : wrap64 ((x13_1.size : Int) + 1) = (x13_1.size : Int) + 1 := (by have h_ := of_decide_eq_true c26b1; unfold wrap64; omega); (try rw [hzz] at hji7); (try rw [hzz] at hji7w); clear hzz))
                        try have c26b2 : (9223372036854775807 < x13_1.size + 1) = False := eq_false (Nat.not_lt.2 c26)
                        by_cases c27 : (x13_1 ++ (⟨#[0]⟩ : ByteArray)).size + a3.size ≤ 9223372036854775807
                        · rw [if_pos c27] at H
                          have c27b0 := eq_true c27
                          have c27b1 : decide ((x13_1 ++ (⟨#[0]⟩ : ByteArray)).size + a3.size ≤ 9223372036854775807) = true := decide_eq_true c27
                          try have c27b2 : (9223372036854775807 < (x13_1 ++ (⟨#[0]⟩ : ByteArray)).size + a3.size) = False := eq_false (Nat.not_lt.2 c27)
                          (try (have c27r := c27; (repeat rw [ByteArray.size_append] at c27r); (repeat rw [ByteArray.size_extract] at c27r); (repeat rw [Nat.sub_zero] at c27r); (repeat rw [Nat.min_self] at c27r); (try rw [show (⟨#[0]⟩ : ByteArray).size = 1 from rfl] at c27r); have c27rt := eq_true c27r; have c27ru := eq_false (Nat.not_lt.mpr c27r); clear c27r))
                          (try (have c27s := c27; simp [c8b0, c9b0, c10b0, c23b0, c26b0] at c27s; have c27t := eq_true c27s; have c27u := eq_false (Nat.not_lt.mpr c27s); clear c27s))
                          replace H := Option.bind_eq_some_iff.mp H
                          obtain ⟨t307, A280, H⟩ := H
                          replace H : (if t307 = true then (if 0 ≤ (wrap64 ((((strOfNums y300) ++ (strOfNums y303)).size : Int) - 1)) then (if (wrap64 ((((strOfNums y300) ++ (strOfNums y303)).size : Int) - 1)) ≤ (((strOfNums y300) ++ (strOfNums y303)).size : Int) then (if x13_1.size + (((strOfNums y300) ++ (strOfNums y303)).extract 0 ((wrap64 ((((strOfNums y300) ++ (strOfNums y303)).size : Int) - 1)) : Int).toNat).size ≤ 9223372036854775807 then ((ip4_OptsRight.f (x13_1 ++ (((strOfNums y300) ++ (strOfNums y303)).extract 0 ((wrap64 ((((strOfNums y300) ++ (strOfNums y303)).size : Int) - 1)) : Int).toNat))).bind fun t308 => (if t308 = true then (some false) else ((some (([((wrap64 (2 + (Int.tmod (wrap64 (a0)) 254)))) % 256, 1] : List Int) : List Int)).bind fun y309 => (if x13_1.size + (strOfNums y309).size ≤ 9223372036854775807 then ((ip4_OptsRight.f (x13_1 ++ (strOfNums y309))).bind fun t312 => (if t312 = true then (some false) else ((some (([((wrap64 (2 + (Int.tmod (wrap64 (a0)) 254)))) % 256] : List Int) : List Int)).bind fun y313 => (if x13_1.size + (strOfNums y313).size ≤ 9223372036854775807 then ((ip4_OptsRight.f (x13_1 ++ (strOfNums y313))).bind fun t316 => (some (!t316))) else (none))))) else (none))))) else (none)) else (none)) else (none)) else (some false)) = some r := H
                          have A28 := Aside0.mk A280
                          clear A280
                          by_cases c29 : t307 = true
                          · subst c29
                            have H1 : (if 0 ≤ (wrap64 ((((strOfNums y300) ++ (strOfNums y303)).size : Int) - 1)) then (if (wrap64 ((((strOfNums y300) ++ (strOfNums y303)).size : Int) - 1)) ≤ (((strOfNums y300) ++ (strOfNums y303)).size : Int) then (if x13_1.size + (((strOfNums y300) ++ (strOfNums y303)).extract 0 ((wrap64 ((((strOfNums y300) ++ (strOfNums y303)).size : Int) - 1)) : Int).toNat).size ≤ 9223372036854775807 then ((ip4_OptsRight.f (x13_1 ++ (((strOfNums y300) ++ (strOfNums y303)).extract 0 ((wrap64 ((((strOfNums y300) ++ (strOfNums y303)).size : Int) - 1)) : Int).toNat))).bind fun t308 => (if t308 = true then (some false) else ((some (([((wrap64 (2 + (Int.tmod (wrap64 (a0)) 254)))) % 256, 1] : List Int) : List Int)).bind fun y309 => (if x13_1.size + (strOfNums y309).size ≤ 9223372036854775807 then ((ip4_OptsRight.f (x13_1 ++ (strOfNums y309))).bind fun t312 => (if t312 = true then (some false) else ((some (([((wrap64 (2 + (Int.tmod (wrap64 (a0)) 254)))) % 256] : List Int) : List Int)).bind fun y313 => (if x13_1.size + (strOfNums y313).size ≤ 9223372036854775807 then ((ip4_OptsRight.f (x13_1 ++ (strOfNums y313))).bind fun t316 => (some (!t316))) else (none))))) else (none))))) else (none)) else (none)) else (none)) = some r := by first | (rw [if_pos rfl] at H; exact H) | (rw [if_pos trivial] at H; exact H)
                            clear H
                            have H := H1
                            clear H1
                            obtain ⟨ji30, hji30⟩ : ∃ j_ : Int, (wrap64 ((((strOfNums y300) ++ (strOfNums y303)).size : Int) - 1)) = j_ := ⟨_, rfl⟩
                            (try (have hji30y := hji30; simp only [ByteArray.size_append, Int.natCast_add] at hji30y))
                            replace H : (if 0 ≤ (ji30) then (if (ji30) ≤ (((strOfNums y300) ++ (strOfNums y303)).size : Int) then (if x13_1.size + (((strOfNums y300) ++ (strOfNums y303)).extract 0 ((ji30) : Int).toNat).size ≤ 9223372036854775807 then ((ip4_OptsRight.f (x13_1 ++ (((strOfNums y300) ++ (strOfNums y303)).extract 0 ((ji30) : Int).toNat))).bind fun t308 => (if t308 = true then (some false) else ((some (([((wrap64 (2 + (Int.tmod (wrap64 (a0)) 254)))) % 256, 1] : List Int) : List Int)).bind fun y309 => (if x13_1.size + (strOfNums y309).size ≤ 9223372036854775807 then ((ip4_OptsRight.f (x13_1 ++ (strOfNums y309))).bind fun t312 => (if t312 = true then (some false) else ((some (([((wrap64 (2 + (Int.tmod (wrap64 (a0)) 254)))) % 256] : List Int) : List Int)).bind fun y313 => (if x13_1.size + (strOfNums y313).size ≤ 9223372036854775807 then ((ip4_OptsRight.f (x13_1 ++ (strOfNums y313))).bind fun t316 => (some (!t316))) else (none))))) else (none))))) else (none)) else (none)) else (none)) = some r := by first | (rw [hji30] at H; exact H) | (simp only [hji30] at H ⊢; exact H)
                            (try rw [hji30] at A24)
                            (try rw [hji30] at A28)
                            have hji30w : (IntKind.i64.wrap ((((strOfNums y300) ++ (strOfNums y303)).size : Int) - 1)) = ji30 := (i64_w _).trans hji30
                            by_cases c31 : 0 ≤ (ji30)
                            · rw [if_pos c31] at H
                              have c31b0 := eq_true c31
                              have c31b1 : decide (0 ≤ (ji30)) = true := decide_eq_true c31
                              clear c31
                              by_cases c32 : (ji30) ≤ (((strOfNums y300) ++ (strOfNums y303)).size : Int)
                              · rw [if_pos c32] at H
                                have c32b0 := eq_true c32
                                have c32b1 : decide ((ji30) ≤ (((strOfNums y300) ++ (strOfNums y303)).size : Int)) = true := decide_eq_true c32
                                (try (have c32k := c32; simp only [ByteArray.size_append, Int.natCast_add] at c32k; have c32kt := eq_true c32k; have c32kf := eq_false (Int.not_lt.mpr c32k); clear c32k))
                                by_cases c33 : x13_1.size + (((strOfNums y300) ++ (strOfNums y303)).extract 0 ((ji30) : Int).toNat).size ≤ 9223372036854775807
                                · rw [if_pos c33] at H
                                  have c33b0 := eq_true c33
                                  have c33b1 : decide (x13_1.size + (((strOfNums y300) ++ (strOfNums y303)).extract 0 ((ji30) : Int).toNat).size ≤ 9223372036854775807) = true := decide_eq_true c33
                                  try have c33b2 : (9223372036854775807 < x13_1.size + (((strOfNums y300) ++ (strOfNums y303)).extract 0 ((ji30) : Int).toNat).size) = False := eq_false (Nat.not_lt.2 c33)
                                  (try (have c33v : x13_1.size + (ji30 : Int).toNat ≤ 9223372036854775807 := (by have h_ := c33; (try have := of_eq_true c8b0); (try have := of_eq_true c9b0); (try have := of_eq_true c10b0); (try have := of_eq_true c23b0); (try have := of_eq_true c26b0); (try have := of_eq_true c27b0); (try have := of_eq_true c31b0); (try have := of_eq_true c32b0); simp only [ByteArray.size_extract, ByteArray.size_append] at h_; first | omega | (simp only [ByteArray.size_append, Int.natCast_add] at *; omega)); have c33w := eq_true c33v; have c33x := eq_false (Nat.not_lt.mpr c33v); clear c33v))
                                  (try (have c33r := c33; (repeat rw [ByteArray.size_append] at c33r); (repeat rw [ByteArray.size_extract] at c33r); (repeat rw [Nat.sub_zero] at c33r); (repeat rw [Nat.min_self] at c33r); have c33rt := eq_true c33r; have c33ru := eq_false (Nat.not_lt.mpr c33r); clear c33r))
                                  (try (have c33s := c33; simp [c8b0, c9b0, c10b0, c23b0, c26b0, c27b0, c31b0, c32b0] at c33s; have c33t := eq_true c33s; have c33u := eq_false (Nat.not_lt.mpr c33s); clear c33s))
                                  replace H := Option.bind_eq_some_iff.mp H
                                  obtain ⟨t308, A340, H⟩ := H
                                  replace H : (if t308 = true then (some false) else ((some (([((wrap64 (2 + (Int.tmod (wrap64 (a0)) 254)))) % 256, 1] : List Int) : List Int)).bind fun y309 => (if x13_1.size + (strOfNums y309).size ≤ 9223372036854775807 then ((ip4_OptsRight.f (x13_1 ++ (strOfNums y309))).bind fun t312 => (if t312 = true then (some false) else ((some (([((wrap64 (2 + (Int.tmod (wrap64 (a0)) 254)))) % 256] : List Int) : List Int)).bind fun y313 => (if x13_1.size + (strOfNums y313).size ≤ 9223372036854775807 then ((ip4_OptsRight.f (x13_1 ++ (strOfNums y313))).bind fun t316 => (some (!t316))) else (none))))) else (none)))) = some r := H
                                  have A34 := Aside0.mk A340
                                  clear A340
                                  by_cases c35 : t308 = true
                                  · subst c35
                                    have H1 : (some false) = some r := by first | (rw [if_pos rfl] at H; exact H) | (rw [if_pos trivial] at H; exact H)
                                    clear H
                                    have H := H1
                                    clear H1
                                    exact absurd ((Option.some.inj H).trans hr_) (by decide)
                                  · replace c35 := Bool.eq_false_iff.mpr c35
                                    subst c35
                                    have H1 : ((some (([((wrap64 (2 + (Int.tmod (wrap64 (a0)) 254)))) % 256, 1] : List Int) : List Int)).bind fun y309 => (if x13_1.size + (strOfNums y309).size ≤ 9223372036854775807 then ((ip4_OptsRight.f (x13_1 ++ (strOfNums y309))).bind fun t312 => (if t312 = true then (some false) else ((some (([((wrap64 (2 + (Int.tmod (wrap64 (a0)) 254)))) % 256] : List Int) : List Int)).bind fun y313 => (if x13_1.size + (strOfNums y313).size ≤ 9223372036854775807 then ((ip4_OptsRight.f (x13_1 ++ (strOfNums y313))).bind fun t316 => (some (!t316))) else (none))))) else (none))) = some r := by rw [if_neg (show ¬ (false = true) by decide)] at H; exact H
                                    clear H
                                    have H := H1
                                    clear H1
                                    obtain ⟨y309, hy309⟩ : ∃ y_ : List Int, y_ = (([((wrap64 (2 + (Int.tmod (wrap64 (a0)) 254)))) % 256, 1] : List Int)) := ⟨_, rfl⟩
                                    replace H : (if x13_1.size + (strOfNums y309).size ≤ 9223372036854775807 then ((ip4_OptsRight.f (x13_1 ++ (strOfNums y309))).bind fun t312 => (if t312 = true then (some false) else ((some (([((wrap64 (2 + (Int.tmod (wrap64 (a0)) 254)))) % 256] : List Int) : List Int)).bind fun y313 => (if x13_1.size + (strOfNums y313).size ≤ 9223372036854775807 then ((ip4_OptsRight.f (x13_1 ++ (strOfNums y313))).bind fun t316 => (some (!t316))) else (none))))) else (none)) = some r := by first | (rw [hy309]; with_reducible exact H) | (have H2_ := (Option.bind_some _ _).symm.trans H; rw [hy309]; with_reducible exact H2_) | (have H2_ := (Option.bind_some _ _).symm.trans H; with_reducible exact H2_) | with_reducible exact H | (rw [hy309]; exact H) | exact H
                                    have Ny309 := Aside0.mk hy309
                                    clear hy309
                                    by_cases c36 : x13_1.size + (strOfNums y309).size ≤ 9223372036854775807
                                    · rw [if_pos c36] at H
                                      have c36b0 := eq_true c36
                                      have c36b1 : decide (x13_1.size + (strOfNums y309).size ≤ 9223372036854775807) = true := decide_eq_true c36
                                      try have c36b2 : (9223372036854775807 < x13_1.size + (strOfNums y309).size) = False := eq_false (Nat.not_lt.2 c36)
                                      replace H := Option.bind_eq_some_iff.mp H
                                      obtain ⟨t312, A370, H⟩ := H
                                      replace H : (if t312 = true then (some false) else ((some (([((wrap64 (2 + (Int.tmod (wrap64 (a0)) 254)))) % 256] : List Int) : List Int)).bind fun y313 => (if x13_1.size + (strOfNums y313).size ≤ 9223372036854775807 then ((ip4_OptsRight.f (x13_1 ++ (strOfNums y313))).bind fun t316 => (some (!t316))) else (none)))) = some r := H
                                      have A37 := Aside0.mk A370
                                      clear A370
                                      by_cases c38 : t312 = true
                                      · subst c38
                                        have H1 : (some false) = some r := by first | (rw [if_pos rfl] at H; exact H) | (rw [if_pos trivial] at H; exact H)
                                        clear H
                                        have H := H1
                                        clear H1
                                        exact absurd ((Option.some.inj H).trans hr_) (by decide)
                                      · replace c38 := Bool.eq_false_iff.mpr c38
                                        subst c38
                                        have H1 : ((some (([((wrap64 (2 + (Int.tmod (wrap64 (a0)) 254)))) % 256] : List Int) : List Int)).bind fun y313 => (if x13_1.size + (strOfNums y313).size ≤ 9223372036854775807 then ((ip4_OptsRight.f (x13_1 ++ (strOfNums y313))).bind fun t316 => (some (!t316))) else (none))) = some r := by rw [if_neg (show ¬ (false = true) by decide)] at H; exact H
                                        clear H
                                        have H := H1
                                        clear H1
                                        obtain ⟨y313, hy313⟩ : ∃ y_ : List Int, y_ = (([((wrap64 (2 + (Int.tmod (wrap64 (a0)) 254)))) % 256] : List Int)) := ⟨_, rfl⟩
                                        replace H : (if x13_1.size + (strOfNums y313).size ≤ 9223372036854775807 then ((ip4_OptsRight.f (x13_1 ++ (strOfNums y313))).bind fun t316 => (some (!t316))) else (none)) = some r := by first | (rw [hy313]; with_reducible exact H) | (have H2_ := (Option.bind_some _ _).symm.trans H; rw [hy313]; with_reducible exact H2_) | (have H2_ := (Option.bind_some _ _).symm.trans H; with_reducible exact H2_) | with_reducible exact H | (rw [hy313]; exact H) | exact H
                                        have Ny313 := Aside0.mk hy313
                                        clear hy313
                                        by_cases c39 : x13_1.size + (strOfNums y313).size ≤ 9223372036854775807
                                        · rw [if_pos c39] at H
                                          have c39b0 := eq_true c39
                                          have c39b1 : decide (x13_1.size + (strOfNums y313).size ≤ 9223372036854775807) = true := decide_eq_true c39
                                          try have c39b2 : (9223372036854775807 < x13_1.size + (strOfNums y313).size) = False := eq_false (Nat.not_lt.2 c39)
                                          replace H := Option.bind_eq_some_iff.mp H
                                          obtain ⟨t316, A400, H⟩ := H
                                          replace H : (some (!t316)) = some r := H
                                          have A40 := Aside0.mk A400
                                          clear A400
                                          obtain rfl := Option.some.inj H
                                          go_wp2_with (first | (go_at_call 16; (with_reducible refine (ip4_OptsRight.calls (x13_1 ++ ((strOfNums y300) ++ (strOfNums y303))) true _ A24.out).mono ?_); rintro e w' ⟨rfl, ⟨nd, rfl⟩⟩) | (go_at_call 16; (with_reducible refine (ip4_OptsRight.calls ((x13_1 ++ (⟨#[0]⟩ : ByteArray)) ++ a3) true _ A28.out).mono ?_); rintro e w' ⟨rfl, ⟨nd, rfl⟩⟩) | (go_at_call 16; (with_reducible refine (ip4_OptsRight.calls (x13_1 ++ (((strOfNums y300) ++ (strOfNums y303)).extract 0 ((ji30) : Int).toNat)) false _ A34.out).mono ?_); rintro e w' ⟨rfl, ⟨nd, rfl⟩⟩) | ((with_reducible refine gate_dst (N := 76) rfl ?_); (try (refine gate_guard (by rfl) ?_; dsimp only)); refine Kd.R_lit (Kd.int .u8) _ 5 ?hg (N := 76) ?hd (xs := ([((wrap64 (2 + (Int.tmod (wrap64 (a0)) 254)))) % 256, 1] : List Int)) (inner := [.int .u8 (((wrap64 (2 + (Int.tmod (wrap64 (a0)) 254)))) % 256), .int .u8 1]) (ok := fun _ => True) (okp := fun _ => True) ?hr ?hp (fun _ hk => hk) trivial (Below.refl _ _) (Nat.le_refl _) (by simp) ?_; (case hd => rfl); (case hg => rfl); (case hr => first | (go_simp; done) | (go_simp; rfl)); (case hp => exact (Reps.one (show Kd.M (Kd.int .u8) _ _ _ (((wrap64 (2 + (Int.tmod (wrap64 (a0)) 254)))) % 256) [.int .u8 (((wrap64 (2 + (Int.tmod (wrap64 (a0)) 254)))) % 256)] from rfl) (Reps.one (show Kd.M (Kd.int .u8) _ _ _ 1 [.int .u8 1] from rfl) (Reps.none _ _)))); intro v310 w41 ho42 hb hg_ hnew_; clear hg_ hnew_; (first | rw [← Ny309.out] at ho42 | (simp only [Int.reduceToNat] at ho42; rw [← Ny309.out] at ho42)); have n0_ := Aside0.mk (Kd.R_lower ho42 (below_size (by repeat (first | (with_reducible first | exact HB.out | apply below_alloc | apply pw_below_drewN | apply below_drew1) | exact HB.out)))); have n1_ := Aside0.mk (below_step (by repeat (first | (with_reducible first | exact HB.out | apply below_alloc | apply pw_below_drewN | apply below_drew1) | exact HB.out)) hb); clear HB; have HO311 := n0_; have HB := n1_; clear n0_ n1_; clear hb ho42; have hcv43 := own_string (P := Try.prog) Try.underlying42 Try.underlying5 Try.underlying9 (Kd.own_of_R HO311.out)) | (go_at_call 16; (with_reducible refine (ip4_OptsRight.calls (x13_1 ++ (strOfNums y309)) false _ A37.out).mono ?_); rintro e w' ⟨rfl, ⟨nd, rfl⟩⟩) | ((with_reducible refine gate_dst (N := 86) rfl ?_); (try (refine gate_guard (by rfl) ?_; dsimp only)); refine Kd.R_lit (Kd.int .u8) _ 5 ?hg (N := 86) ?hd (xs := ([((wrap64 (2 + (Int.tmod (wrap64 (a0)) 254)))) % 256] : List Int)) (inner := [.int .u8 (((wrap64 (2 + (Int.tmod (wrap64 (a0)) 254)))) % 256)]) (ok := fun _ => True) (okp := fun _ => True) ?hr ?hp (fun _ hk => hk) trivial (Below.refl _ _) (Nat.le_refl _) (by simp) ?_; (case hd => rfl); (case hg => rfl); (case hr => first | (go_simp; done) | (go_simp; rfl)); (case hp => exact (Reps.one (show Kd.M (Kd.int .u8) _ _ _ (((wrap64 (2 + (Int.tmod (wrap64 (a0)) 254)))) % 256) [.int .u8 (((wrap64 (2 + (Int.tmod (wrap64 (a0)) 254)))) % 256)] from rfl) (Reps.none _ _))); intro v314 w44 ho45 hb hg_ hnew_; clear hg_ hnew_; (first | rw [← Ny313.out] at ho45 | (simp only [Int.reduceToNat] at ho45; rw [← Ny313.out] at ho45)); have n0_ := Aside0.mk (Kd.R_elder' (by (with_reducible repeat (first | apply Kd.R_alloc | apply Kd.R_drewN | apply Kd.R_drew)); exact HO311.out) (Kd.R_base ho45) hb); have n1_ := Aside0.mk (Kd.R_lower (Kd.R_new' ho45 (Kd.R_lt (by (with_reducible repeat (first | apply Kd.R_alloc | apply Kd.R_drewN | apply Kd.R_drew)); exact HO311.out))) (below_size (by repeat (first | (with_reducible first | exact HB.out | apply below_alloc | apply pw_below_drewN | apply below_drew1) | exact HB.out)))); have n2_ := Aside0.mk (below_step (by repeat (first | (with_reducible first | exact HB.out | apply below_alloc | apply pw_below_drewN | apply below_drew1) | exact HB.out)) hb); clear HO311; clear HB; have HO311 := n0_; have HO315 := n1_; have HB := n2_; clear n0_ n1_ n2_; clear hb ho45; have hcv46 := own_string (P := Try.prog) Try.underlying42 Try.underlying5 Try.underlying9 (Kd.own_of_R HO315.out)) | (go_at_call 16; (with_reducible refine (ip4_OptsRight.calls (x13_1 ++ (strOfNums y313)) t316 _ A40.out).mono ?_); rintro e w' ⟨rfl, ⟨nd, rfl⟩⟩))
                                          go_ret
                                          exact ⟨by first | rfl | (simp [errW_none, errW_some] <;> rfl) | (simp only [← hji7, ← hji30]; first | rfl | (simp [errW_none, errW_some] <;> rfl)) | (simp [*, errW_none, errW_some] <;> rfl), by repeat (first | (with_reducible first | exact HB.out | apply below_alloc | apply pw_below_drewN | apply below_drew1) | exact HB.out)⟩
                                        · rw [if_neg c39] at H
                                          exact absurd H (by simp)
                                    · rw [if_neg c36] at H
                                      exact absurd H (by simp)
                                · rw [if_neg c33] at H
                                  exact absurd H (by simp)
                              · rw [if_neg c32] at H
                                exact absurd H (by simp)
                            · rw [if_neg c31] at H
                              exact absurd H (by simp)
                          · replace c29 := Bool.eq_false_iff.mpr c29
                            subst c29
                            have H1 : (some false) = some r := by rw [if_neg (show ¬ (false = true) by decide)] at H; exact H
                            clear H
                            have H := H1
                            clear H1
                            exact absurd ((Option.some.inj H).trans hr_) (by decide)
                        · rw [if_neg c27] at H
                          exact absurd H (by simp)
                      · rw [if_neg c26] at H
                        exact absurd H (by simp)
                    · replace c25 := Bool.eq_false_iff.mpr c25
                      subst c25
                      have H1 : (some false) = some r := by rw [if_neg (show ¬ (false = true) by decide)] at H; exact H
                      clear H
                      have H := H1
                      clear H1
                      exact absurd ((Option.some.inj H).trans hr_) (by decide)
                  · rw [if_neg c23] at H
                    exact absurd H (by simp)
        · rw [if_neg c10] at H
          exact absurd H (by simp)
      · rw [if_neg c9] at H
        exact absurd H (by simp)
    · rw [if_neg c8] at H
      exact absurd H (by simp)
  · replace c6 := Bool.eq_false_iff.mpr c6
    subst c6
    have H1 : (some false) = some r := by rw [if_neg (show ¬ (false = true) by decide)] at H; exact H
    clear H
    have H := H1
    clear H1
    exact absurd ((Option.some.inj H).trans hr_) (by decide)

/-- THE ONE PURE STATEMENT of weighbridgelaw04_Ip4Options: yours. -/
def weighbridgelaw04_Ip4Options.Pure : Prop := ∀ (a0 : Int) (a1 : Int) (a2 : Int) (a3 : ByteArray), (Lit.int .u8 a0).wf = true → (Lit.int .u8 a1).wf = true → (Lit.int .u8 a2).wf = true → a3.size ≤ 140737488351232 → ∃ k, weighbridgelaw04_Ip4Options.f k a0 a1 a2 a3 = some true
theorem weighbridgelaw04_Ip4Options.walk (P : weighbridgelaw04_Ip4Options.Pure) (a0 : Int) (a1 : Int) (a2 : Int) (a3 : ByteArray) (w : World) (w0 : (Lit.int .u8 a0).wf = true) (w1 : (Lit.int .u8 a1).wf = true) (w2 : (Lit.int .u8 a2).wf = true) (w3 : a3.size ≤ 140737488351232) :
    Calls Try.prog 6 #[.int .u8 a0, .int .u8 a1, .int .u8 a2, .string a3] w fun e w' => e = .returned (.bool true) ∧ Below w.heap.size w w' := by
  obtain ⟨k, h⟩ := P a0 a1 a2 a3 w0 w1 w2 w3
  refine (weighbridgelaw04_Ip4Options.calls k a0 a1 a2 a3 true w h rfl).mono ?_
  rintro e w' ⟨rfl, hd⟩
  exact ⟨rfl, hd⟩
def weighbridgelaw04_Ip4Options.PureU : Prop := ∀ (a0 : Int) (a1 : Int) (a2 : Int) (a3 : ByteArray), (Lit.int .u8 a0).wf = true → (Lit.int .u8 a1).wf = true → (Lit.int .u8 a2).wf = true → a3.size ≤ 1048576 → ∃ k, weighbridgelaw04_Ip4Options.f k a0 a1 a2 a3 = some true
theorem weighbridgelaw04_Ip4Options.walkU (P : weighbridgelaw04_Ip4Options.PureU) (a0 : Int) (a1 : Int) (a2 : Int) (a3 : ByteArray) (w : World) (w0 : (Lit.int .u8 a0).wf = true) (w1 : (Lit.int .u8 a1).wf = true) (w2 : (Lit.int .u8 a2).wf = true) (w3 : a3.size ≤ 1048576) :
    Calls Try.prog 6 #[.int .u8 a0, .int .u8 a1, .int .u8 a2, .string a3] w fun e w' => e = .returned (.bool true) ∧ Below w.heap.size w w' := by
  obtain ⟨k, h⟩ := P a0 a1 a2 a3 w0 w1 w2 w3
  refine (weighbridgelaw04_Ip4Options.calls k a0 a1 a2 a3 true w h rfl).mono ?_
  rintro e w' ⟨rfl, hd⟩
  exact ⟨rfl, hd⟩

end Go.Proofs.Ythdaldicdhpnoaa.Pr
