-- Written by a program of the session (wip/tools) out of the translation, over the kit's print; with pieces of the session's own.
import Derived.Test.YthmpmladneiegaaPr0
import Derived.Test.YthmpmladneiegaaPr1
import Derived.Test.YthmpmladneiegaaPr16
import Derived.Test.YthmpmladneiegaaPr18
namespace Go.Proofs.Ythmpmladneiegaa.Pr
open Go.RowKit Go.Proofs.YthmpmladneiegaaW.PrintWords Go.Proofs.YthmpmladneiegaaW.PrintLast Go.Proofs.YthmpmladneiegaaW.PrintMore
attribute [local go_sem] max2_int min2_int max_two min_two max_three min_three max_four min_four   -- for this text's walks alone
set_option linter.unusedVariables false
set_option linter.unusedSimpArgs false
open Go.Proofs.Ythmpmladneiegaa.Sp
attribute [local go_sem high] eqA45
/-! ### weighbridgelaw07_IcmpBack: function 11 -/
def weighbridgelaw07_IcmpBack.j0 : Nat → Int → Int → Int → Int → Bool → ByteArray → Bool → Int → Int → Int → ByteArray → Option (Bool)
  | 0, _, _, _, _, _, _, _, _, _, _, _ => none
  | k + 1, x0, x1, x2, x4, x11, x13, x51, x357000, x357001, x357002, x357003 => if x51 = true then (some false) else ((icmp_Parse.f x13).bind fun bt359 => (if x4 < 0 then (if x13.size ≤ 281474976710656 then ((some (numsOf x13 : List Int)).bind fun y365 => (if (y365.length : Int) = 0 then (none) else (if 0 ≤ (Int.tmod (wrap64 (Int.tdiv (wrap64 (-(wrap64 (x4 + 1)))) 8)) (y365.length : Int)) then (if (Int.tmod (wrap64 (Int.tdiv (wrap64 (-(wrap64 (x4 + 1)))) 8)) (y365.length : Int)) < (y365.length : Int) then (if 0 ≤ (Int.tmod (wrap64 (-(wrap64 (x4 + 1)))) 8) then ((icmp_Parse.f (strOfNums (y365.set ((Int.tmod (wrap64 (Int.tdiv (wrap64 (-(wrap64 (x4 + 1)))) 8)) (y365.length : Int)) : Int).toNat (Go.bits .xor .u8 (rd y365 (Int.tmod (wrap64 (Int.tdiv (wrap64 (-(wrap64 (x4 + 1)))) 8)) (y365.length : Int))) (shl .u8 1 (Int.tmod (wrap64 (-(wrap64 (x4 + 1)))) 8)))))).bind fun bt370 => ((icmp_MTU.f x357000 x357001 x357002 x357003).bind fun bt376 => (if x11 = true then (if (bt359.1 == x357000 && (bt359.2.1 == x357001 && (bt359.2.2.1 == x357002 && (bt359.2.2.2.1.toList == x357003.toList)))) = true then (if bt359.2.2.2.2 = 0 then (if bt370.2.2.2.2 = 7 then (if (bt370.1 == 0 && (bt370.2.1 == 0 && (bt370.2.2.1 == 0 && (bt370.2.2.2.1.toList == ([] : List UInt8))))) = true then (if x0 = 3 then (if (bt376.2 == (x1 == 4)) = true then (if bt376.2 = true then (some (bt376.1 == (wrap64 (Int.tmod x2 65536)))) else (some true)) else (some false)) else (if (bt376.2 == false) = true then (if bt376.2 = true then (some (bt376.1 == (wrap64 (Int.tmod x2 65536)))) else (some true)) else (some false))) else (some false)) else (some false)) else (some false)) else (some false)) else (some false)))) else (none)) else (none)) else (none)))) else (none)) else (if x13.size ≤ 281474976710656 then ((some (numsOf x13 : List Int)).bind fun y378 => (if (y378.length : Int) = 0 then (none) else (if 0 ≤ (Int.tmod (wrap64 (Int.tdiv x4 8)) (y378.length : Int)) then (if (Int.tmod (wrap64 (Int.tdiv x4 8)) (y378.length : Int)) < (y378.length : Int) then (if 0 ≤ (Int.tmod x4 8) then ((icmp_Parse.f (strOfNums (y378.set ((Int.tmod (wrap64 (Int.tdiv x4 8)) (y378.length : Int)) : Int).toNat (Go.bits .xor .u8 (rd y378 (Int.tmod (wrap64 (Int.tdiv x4 8)) (y378.length : Int))) (shl .u8 1 (Int.tmod x4 8)))))).bind fun bt383 => ((icmp_MTU.f x357000 x357001 x357002 x357003).bind fun bt389 => (if x11 = true then (if (bt359.1 == x357000 && (bt359.2.1 == x357001 && (bt359.2.2.1 == x357002 && (bt359.2.2.2.1.toList == x357003.toList)))) = true then (if bt359.2.2.2.2 = 0 then (if bt383.2.2.2.2 = 7 then (if (bt383.1 == 0 && (bt383.2.1 == 0 && (bt383.2.2.1 == 0 && (bt383.2.2.2.1.toList == ([] : List UInt8))))) = true then (if x0 = 3 then (if (bt389.2 == (x1 == 4)) = true then (if bt389.2 = true then (some (bt389.1 == (wrap64 (Int.tmod x2 65536)))) else (some true)) else (some false)) else (if (bt389.2 == false) = true then (if bt389.2 = true then (some (bt389.1 == (wrap64 (Int.tmod x2 65536)))) else (some true)) else (some false))) else (some false)) else (some false)) else (some false)) else (some false)) else (some false)))) else (none)) else (none)) else (none)))) else (none))))
def weighbridgelaw07_IcmpBack.f (k : Nat) (a0 : Int) (a1 : Int) (a2 : Int) (a3 : ByteArray) (a4 : Int) : Option (Bool) := (weighbridgelaw07_examples.f).bind fun t355 => (if t355 = true then (if 0 ≤ (mn (a3.size : Int) 300) then (if (mn (a3.size : Int) 300) ≤ (a3.size : Int) then ((icmp_Build.f (wrap64 (a0)) (wrap64 (a1)) a2 (a3.extract 0 ((mn (a3.size : Int) 300) : Int).toNat)).bind fun bt357 => (if bt357.2 = 0 then (weighbridgelaw07_IcmpBack.j0 k a0 a1 a2 a4 t355 bt357.1 ((bt357.1.size : Int) != (wrap64 (8 + ((a3.extract 0 ((mn (a3.size : Int) 300) : Int).toNat).size : Int)))) (wrap64 (a0)) (wrap64 (a1)) a2 (a3.extract 0 ((mn (a3.size : Int) 300) : Int).toNat)) else (weighbridgelaw07_IcmpBack.j0 k a0 a1 a2 a4 t355 bt357.1 true (wrap64 (a0)) (wrap64 (a1)) a2 (a3.extract 0 ((mn (a3.size : Int) 300) : Int).toNat)))) else (none)) else (none)) else (some false))
theorem weighbridgelaw07_IcmpBack.mono_l : ∀ k, (∀ y0 y1 y2 y3 y4 y5 y6 y7 y8 y9 y10, LeO (weighbridgelaw07_IcmpBack.j0 k y0 y1 y2 y3 y4 y5 y6 y7 y8 y9 y10) (weighbridgelaw07_IcmpBack.j0 (k + 1) y0 y1 y2 y3 y4 y5 y6 y7 y8 y9 y10))
  | 0 => fun _ _ _ _ _ _ _ _ _ _ _ r h => by simp [weighbridgelaw07_IcmpBack.j0] at h
  | k + 1 => by
    have ih0 := weighbridgelaw07_IcmpBack.mono_l k
    · intro y0 y1 y2 y3 y4 y5 y6 y7 y8 y9 y10
      unfold weighbridgelaw07_IcmpBack.j0
      repeat' first
      | (with_reducible exact ih0 _ _ _ _ _ _ _ _ _ _ _)
      | (with_reducible exact LeO.refl _)
      | (with_reducible exact LeO.none _)
      | (with_reducible refine LeO.ite ?_ ?_)
      | (with_reducible refine LeO.bind ?_ (fun _ => ?_))
      | exact ih0 _ _ _ _ _ _ _ _ _ _ _
      | exact LeO.none _
      | refine LeO.ite ?_ ?_
      | refine LeO.bind ?_ (fun _ => ?_)
theorem weighbridgelaw07_IcmpBack.mono : ∀ a0 a1 a2 a3 a4 k, LeO (weighbridgelaw07_IcmpBack.f k a0 a1 a2 a3 a4) (weighbridgelaw07_IcmpBack.f (k + 1) a0 a1 a2 a3 a4) := by
  intro a0 a1 a2 a3 a4 k
  have ih0 := weighbridgelaw07_IcmpBack.mono_l k
  unfold weighbridgelaw07_IcmpBack.f
  repeat' first
      | (with_reducible exact ih0 _ _ _ _ _ _ _ _ _ _ _)
      | (with_reducible exact LeO.refl _)
      | (with_reducible exact LeO.none _)
      | (with_reducible refine LeO.ite ?_ ?_)
      | (with_reducible refine LeO.bind ?_ (fun _ => ?_))
      | exact ih0 _ _ _ _ _ _ _ _ _ _ _
      | exact LeO.none _
      | refine LeO.ite ?_ ?_
      | refine LeO.bind ?_ (fun _ => ?_)
def weighbridgelaw07_IcmpBack.T12 : Bool × List (List Nat × List Nat) := (true, [([], []), ([], []), ([1], [1]), ([], []), ([3], [3]), ([2, 4], [2, 4]), ([], []), ([], []), ([7], [7]), ([], []), ([9], [9]), ([8, 10], [8, 10]), ([6, 11], [6, 11]), ([12], [12]), ([], []), ([14], [14]), ([15], [15]), ([13, 16], [13, 16]), ([0, 5, 0, 1, 2, 3, 4, 5, 6, 7, 8, 9, 10, 11, 12, 13, 14, 15, 16, 17], [0, 5]), ([18, 17, 0, 1, 2, 3, 4, 5, 6, 7, 8, 9, 10, 11, 12, 13, 14, 15, 16, 17], [17, 18])])
def weighbridgelaw07_IcmpBack.B12 : List Nat := [0, 0, 2, 0, 8, 30, 0, 0, 128, 0, 512, 1920, 4032, 8128, 0, 16384, 49152, 131008, 262143, 524287]
theorem weighbridgelaw07_IcmpBack.tab12 : rtab .any (opsOf Try.f11 12) = weighbridgelaw07_IcmpBack.T12 := by kernel_rfl
theorem weighbridgelaw07_IcmpBack.bits12 : waitsOk weighbridgelaw07_IcmpBack.T12.2 weighbridgelaw07_IcmpBack.B12 = true := by kernel_rfl
set_option maxHeartbeats 8000000 in
set_option maxRecDepth 100000 in
theorem weighbridgelaw07_IcmpBack.callsT (k : Nat) (a0 : Int) (a1 : Int) (a2 : Int) (a3 : ByteArray) (a4 : Int) (r : Bool) (w : World) (h : weighbridgelaw07_IcmpBack.f k a0 a1 a2 a3 a4 = some r) (hr_ : r = true) (hc_ : a4 < 0) :
    Calls Try.prog 11 #[.int .u8 a0, .int .u8 a1, .int .u32 a2, .string a3, .int .i64 a4] w fun e w' => e = .returned (.bool r) ∧ Below w.heap.size w w' := by
  have hu45 := Try.underlying45
  have HB := Aside0.mk (Below.refl w.heap.size w)
  have H : ((weighbridgelaw07_examples.f).bind fun t355 => (if t355 = true then (if 0 ≤ (mn (a3.size : Int) 300) then (if (mn (a3.size : Int) 300) ≤ (a3.size : Int) then ((icmp_Build.f (wrap64 (a0)) (wrap64 (a1)) a2 (a3.extract 0 ((mn (a3.size : Int) 300) : Int).toNat)).bind fun bt357 => (if bt357.2 = 0 then (weighbridgelaw07_IcmpBack.j0 k a0 a1 a2 a4 t355 bt357.1 ((bt357.1.size : Int) != (wrap64 (8 + ((a3.extract 0 ((mn (a3.size : Int) 300) : Int).toNat).size : Int)))) (wrap64 (a0)) (wrap64 (a1)) a2 (a3.extract 0 ((mn (a3.size : Int) 300) : Int).toNat)) else (weighbridgelaw07_IcmpBack.j0 k a0 a1 a2 a4 t355 bt357.1 true (wrap64 (a0)) (wrap64 (a1)) a2 (a3.extract 0 ((mn (a3.size : Int) 300) : Int).toNat)))) else (none)) else (none)) else (some false))) = some r := h
  clear h
  replace H := Option.bind_eq_some_iff.mp H
  obtain ⟨t355, A60, H⟩ := H
  replace H : (if t355 = true then (if 0 ≤ (mn (a3.size : Int) 300) then (if (mn (a3.size : Int) 300) ≤ (a3.size : Int) then ((icmp_Build.f (wrap64 (a0)) (wrap64 (a1)) a2 (a3.extract 0 ((mn (a3.size : Int) 300) : Int).toNat)).bind fun bt357 => (if bt357.2 = 0 then (weighbridgelaw07_IcmpBack.j0 k a0 a1 a2 a4 t355 bt357.1 ((bt357.1.size : Int) != (wrap64 (8 + ((a3.extract 0 ((mn (a3.size : Int) 300) : Int).toNat).size : Int)))) (wrap64 (a0)) (wrap64 (a1)) a2 (a3.extract 0 ((mn (a3.size : Int) 300) : Int).toNat)) else (weighbridgelaw07_IcmpBack.j0 k a0 a1 a2 a4 t355 bt357.1 true (wrap64 (a0)) (wrap64 (a1)) a2 (a3.extract 0 ((mn (a3.size : Int) 300) : Int).toNat)))) else (none)) else (none)) else (some false)) = some r := H
  have A6 := Aside0.mk A60
  clear A60
  by_cases c7 : t355 = true
  · subst c7
    have H1 : (if 0 ≤ (mn (a3.size : Int) 300) then (if (mn (a3.size : Int) 300) ≤ (a3.size : Int) then ((icmp_Build.f (wrap64 (a0)) (wrap64 (a1)) a2 (a3.extract 0 ((mn (a3.size : Int) 300) : Int).toNat)).bind fun bt357 => (if bt357.2 = 0 then (weighbridgelaw07_IcmpBack.j0 k a0 a1 a2 a4 true bt357.1 ((bt357.1.size : Int) != (wrap64 (8 + ((a3.extract 0 ((mn (a3.size : Int) 300) : Int).toNat).size : Int)))) (wrap64 (a0)) (wrap64 (a1)) a2 (a3.extract 0 ((mn (a3.size : Int) 300) : Int).toNat)) else (weighbridgelaw07_IcmpBack.j0 k a0 a1 a2 a4 true bt357.1 true (wrap64 (a0)) (wrap64 (a1)) a2 (a3.extract 0 ((mn (a3.size : Int) 300) : Int).toNat)))) else (none)) else (none)) = some r := by rw [if_pos rfl] at H; exact H
    clear H
    have H := H1
    clear H1
    obtain ⟨ji8, hji8⟩ : ∃ j_ : Int, (mn (a3.size : Int) 300) = j_ := ⟨_, rfl⟩
    replace H : (if 0 ≤ (ji8) then (if (ji8) ≤ (a3.size : Int) then ((icmp_Build.f (wrap64 (a0)) (wrap64 (a1)) a2 (a3.extract 0 ((ji8) : Int).toNat)).bind fun bt357 => (if bt357.2 = 0 then (weighbridgelaw07_IcmpBack.j0 k a0 a1 a2 a4 true bt357.1 ((bt357.1.size : Int) != (wrap64 (8 + ((a3.extract 0 ((ji8) : Int).toNat).size : Int)))) (wrap64 (a0)) (wrap64 (a1)) a2 (a3.extract 0 ((ji8) : Int).toNat)) else (weighbridgelaw07_IcmpBack.j0 k a0 a1 a2 a4 true bt357.1 true (wrap64 (a0)) (wrap64 (a1)) a2 (a3.extract 0 ((ji8) : Int).toNat)))) else (none)) else (none)) = some r := by first | (rw [hji8] at H; exact H) | (simp only [hji8] at H ⊢; exact H)
    (try rw [hji8] at A6)
    (try (have hji8h : ji8 ≤ 300 := by (rw [← hji8]; unfold mn; (repeat' split) <;> omega)))
    (try (have hji8g : ji8 ≤ 64 := by omega))
    (try (have hji8l : 0 ≤ ji8 := by (rw [← hji8]; unfold mn; (repeat' split) <;> omega)))
    (try (have hji8m : 0 ≤ ji8 := by omega))
    have hji8_ : (if 300 < (a3.size : Int) then 300 else (a3.size : Int)) = ji8 := hji8
    by_cases c9 : 0 ≤ (ji8)
    · rw [if_pos c9] at H
      have c9b0 := eq_true c9
      have c9b1 : decide (0 ≤ (ji8)) = true := decide_eq_true c9
      clear c9
      by_cases c10 : (ji8) ≤ (a3.size : Int)
      · rw [if_pos c10] at H
        have c10b0 := eq_true c10
        have c10b1 : decide ((ji8) ≤ (a3.size : Int)) = true := decide_eq_true c10
        clear c10
        replace H := Option.bind_eq_some_iff.mp H
        obtain ⟨⟨t357, t358⟩, A110, H⟩ := H
        replace H : (if t358 = 0 then (weighbridgelaw07_IcmpBack.j0 k a0 a1 a2 a4 true t357 ((t357.size : Int) != (wrap64 (8 + ((a3.extract 0 ((ji8) : Int).toNat).size : Int)))) (wrap64 (a0)) (wrap64 (a1)) a2 (a3.extract 0 ((ji8) : Int).toNat)) else (weighbridgelaw07_IcmpBack.j0 k a0 a1 a2 a4 true t357 true (wrap64 (a0)) (wrap64 (a1)) a2 (a3.extract 0 ((ji8) : Int).toNat))) = some r := H
        have A11 := Aside0.mk A110
        clear A110
        have HC12 := Aside0.mk H
        clear H
        go_enter Try.func11, Try.ntmps11
        go_upto_region 6 with (first | ((with_reducible refine gate_callee (f := 21) rfl ?_); refine goesL_ (some 22) rfl rfl Try.func21 (by kernel_rfl) rfl #[] rfl (by (try simp only [List.map_toArray, List.map_cons, List.map_nil]); first | done | rfl | (simp only [List.length_drop, List.length_take]; rfl)) ?_; (with_reducible refine (weighbridgelaw07_examples.calls  true _ A6.out).mono ?_); rintro e w13 ⟨rfl, hb⟩; refine ⟨_, rfl, ?_⟩; have n0_ := Aside0.mk (below_step (by repeat (first | (with_reducible first | exact HB.out | apply below_alloc | apply pw_below_drewN | apply below_drew1) | exact HB.out)) hb); clear HB; have HB := n0_; clear n0_; (try clear hb); (try clear hb2); (try clear hk); (try clear hi)) | ((with_reducible refine gate_dst (N := 12) rfl ?_); (try (refine gate_guard (by rfl) ?_; dsimp only)); refine box_event ?hg (N := 12) ?hd (cs := #[.int .i64 0, .int .i64 0, .int .u32 0, .string (⟨#[]⟩ : ByteArray)]) (t := 45) ?hr ?_; (case hd => rfl); (case hg => rfl); (case hr => first | (go_simp; done) | (go_simp; rfl)); intro gb356 hg w14 hbox hb; have n0_ := Aside0.mk (below_step (by repeat (first | (with_reducible first | exact HB.out | apply below_alloc | apply pw_below_drewN | apply below_drew1) | exact HB.out)) hb); have n1_ := Aside0.mk (hbox); have n2_ := Aside0.mk ((by rw [hg]; exact (below_size (by repeat (first | (with_reducible first | exact HB.out | apply below_alloc | apply pw_below_drewN | apply below_drew1) | exact HB.out))) : w.heap.size ≤ gb356)); have n3_ := Aside0.mk ((by rw [hg]; exact (below_size (by repeat (first | (with_reducible first | exact HB.out | apply below_alloc | apply pw_below_drewN | apply below_drew1) | exact HB.out))) : w.heap.size ≤ gb356)); clear HB; have HB := n0_; have BK356 := n1_; have GW356 := n2_; have GE356 := n3_; clear n0_ n1_ n2_ n3_; clear hb hbox hg; have hcz15_0 : w14.cell? ⟨gb356, 0, none⟩ = some (.int .i64 0) := (blk_cell BK356.out 0).trans rfl; have hcz15_1 : w14.cell? ⟨gb356, 1, none⟩ = some (.int .i64 0) := (blk_cell BK356.out 1).trans rfl; have hcz15_2 : w14.cell? ⟨gb356, 2, none⟩ = some (.int .u32 0) := (blk_cell BK356.out 2).trans rfl; have hcz15_3 : w14.cell? ⟨gb356, 3, none⟩ = some (.string (⟨#[]⟩ : ByteArray)) := (blk_cell BK356.out 3).trans rfl; have hfz15_0 := blk_frozen BK356.out 0; have hfz15_1 := blk_frozen BK356.out 1; have hfz15_2 := blk_frozen BK356.out 2; have hfz15_3 := blk_frozen BK356.out 3) | ((with_reducible refine gate_callee (f := 22) rfl ?_); refine goesL_ (some 38) rfl rfl Try.func22 (by kernel_rfl) rfl #[.agg #[.int .i64 (wrap64 (a0)), .int .i64 (wrap64 (a1)), .int .u32 a2, .string (a3.extract 0 ((ji8) : Int).toNat)]] rfl (by (try simp only [List.map_toArray, List.map_cons, List.map_nil]); first | done | (simp only [hji8]; rfl) | rfl | (simp only [List.length_drop, List.length_take]; rfl)) ?_; (with_reducible refine (icmp_Build.calls (wrap64 (a0)) (wrap64 (a1)) a2 (a3.extract 0 ((ji8) : Int).toNat) t357 t358 _ A11.out).mono ?_); rintro e w16 ⟨rfl, hb⟩; refine ⟨_, rfl, ?_⟩; have n0_ := Aside0.mk (blk_below (g := gb356) (o := .cells #[.int .i64 (wrap64 (a0)), .int .i64 (wrap64 (a1)), .int .u32 a2, .string (a3.extract 0 ((ji8) : Int).toNat)] 45 (0, 0)) (by (with_reducible repeat (first | refine blk_drewN ?_ _ | refine blk_drew ?_ | refine blk_alloc ?_ _)); refine blk_put (cs := #[.int .i64 (wrap64 (a0)), .int .i64 (wrap64 (a1)), .int .u32 a2, .string (⟨#[]⟩ : ByteArray)]) ?_ 3 _ rfl; (with_reducible repeat (first | refine blk_drewN ?_ _ | refine blk_drew ?_ | refine blk_alloc ?_ _)); refine blk_put (cs := #[.int .i64 (wrap64 (a0)), .int .i64 (wrap64 (a1)), .int .u32 0, .string (⟨#[]⟩ : ByteArray)]) ?_ 2 _ rfl; (with_reducible repeat (first | refine blk_drewN ?_ _ | refine blk_drew ?_ | refine blk_alloc ?_ _)); refine blk_put (cs := #[.int .i64 (wrap64 (a0)), .int .i64 0, .int .u32 0, .string (⟨#[]⟩ : ByteArray)]) ?_ 1 _ rfl; (with_reducible repeat (first | refine blk_drewN ?_ _ | refine blk_drew ?_ | refine blk_alloc ?_ _)); refine blk_put (cs := #[.int .i64 0, .int .i64 0, .int .u32 0, .string (⟨#[]⟩ : ByteArray)]) ?_ 0 _ rfl; (with_reducible repeat (first | refine blk_drewN ?_ _ | refine blk_drew ?_ | refine blk_alloc ?_ _)); exact BK356.out) hb); have n1_ := Aside0.mk (below_step (by repeat (first | (with_reducible first | exact HB.out | apply below_alloc | apply pw_below_drewN | apply below_drew1 | refine below_set ?_ GE356.out) | exact HB.out)) hb); clear BK356; clear HB; have BK356 := n0_; have HB := n1_; clear n0_ n1_; (try clear hb); (try clear hb2); (try clear hk); (try clear hi)))
        (try simp only [Act.put, List.setIfInBounds_toArray, List.set_cons_zero, List.set_cons_succ])
        go_cut [51] (fun v51 wc => ∃ (kq : Nat) (x51_11 : Bool), v51 = .bool x51_11 ∧ Aside0 (weighbridgelaw07_IcmpBack.j0 kq a0 a1 a2 a4 true t357 x51_11 (wrap64 (a0)) (wrap64 (a1)) a2 (a3.extract 0 ((ji8) : Int).toNat) = some r) ∧ Aside0 (kq ≤ k) ∧ Aside0 (wc.heap[gb356]? = some (.cells #[.int .i64 (wrap64 (a0)), .int .i64 (wrap64 (a1)), .int .u32 a2, .string (a3.extract 0 ((ji8) : Int).toNat)] 45 (0, 0))) ∧ Aside0 (Below w.heap.size w wc))
        case first =>
          have H := HC12.out
          clear HC12
          by_cases c17 : t358 = 0
          · rw [if_pos c17] at H
            have c17b0 : (t358 == 0) = true := beq_iff_eq.mpr c17
            have c17b1 : (t358 != 0) = false := bne_eq_false_iff_eq.mpr c17
            clear c17
            (first | rw [c17b0] | (simp only [i64_w, i32_w]; rw [c17b0]) | skip)
            have H' := Aside0.mk H
            clear H
            have hcz18_0 : w16.cell? ⟨gb356, 0, none⟩ = some (.int .i64 (wrap64 (a0))) := (blk_cell BK356.out 0).trans rfl
            have hcz18_1 : w16.cell? ⟨gb356, 1, none⟩ = some (.int .i64 (wrap64 (a1))) := (blk_cell BK356.out 1).trans rfl
            have hcz18_2 : w16.cell? ⟨gb356, 2, none⟩ = some (.int .u32 a2) := (blk_cell BK356.out 2).trans rfl
            have hcz18_3 : w16.cell? ⟨gb356, 3, none⟩ = some (.string (a3.extract 0 ((ji8) : Int).toNat)) := (blk_cell BK356.out 3).trans rfl
            have hfz18_0 := blk_frozen BK356.out 0
            have hfz18_1 := blk_frozen BK356.out 1
            have hfz18_2 := blk_frozen BK356.out 2
            have hfz18_3 := blk_frozen BK356.out 3
            go_wp2
            go_meet
            case rel => exact ⟨_, (((t357.size : Int) != (wrap64 (8 + ((a3.extract 0 ((ji8) : Int).toNat).size : Int))))), (by first | rfl | (simp; done) | (congr 2; simp only [ByteArray.size_extract, ByteArray.size_append]; (try have := of_eq_true c9b0); (try have := of_eq_true c10b0); (try unfold wrap64); omega) | (simp only [ByteArray.size_extract, ByteArray.size_append, Nat.sub_zero]; done) | (congr 1; simp only [ByteArray.size_extract, ByteArray.size_append, Nat.sub_zero]; (try have := of_eq_true c9b0); (try have := of_eq_true c10b0); omega) | (simp only [← hji8] <;> (first | rfl | simp)) | (simp [*]; done)), H', ⟨by first | omega | exact Nat.le_refl _⟩, ⟨by (with_reducible repeat (first | refine blk_drewN ?_ _ | refine blk_drew ?_ | refine blk_alloc ?_ _)); exact BK356.out⟩, ⟨by repeat (first | (with_reducible first | exact HB.out | apply below_alloc | apply pw_below_drewN | apply below_drew1 | refine below_set ?_ GE356.out) | exact HB.out)⟩⟩
          · rw [if_neg c17] at H
            have c17b0 : (t358 == 0) = false := beq_eq_false_iff_ne.mpr c17
            have c17b1 : (t358 != 0) = true := bne_iff_ne.mpr c17
            (first | rw [c17b0] | (simp only [i64_w, i32_w]; rw [c17b0]) | skip)
            have H' := Aside0.mk H
            clear H
            go_wp2
            go_meet
            case rel => exact ⟨_, (true), (by first | rfl | (simp; done) | (congr 2; simp only [ByteArray.size_extract, ByteArray.size_append]; (try have := of_eq_true c9b0); (try have := of_eq_true c10b0); (try unfold wrap64); omega) | (simp only [ByteArray.size_extract, ByteArray.size_append, Nat.sub_zero]; done) | (congr 1; simp only [ByteArray.size_extract, ByteArray.size_append, Nat.sub_zero]; (try have := of_eq_true c9b0); (try have := of_eq_true c10b0); omega) | (simp [*]; done)), H', ⟨by first | omega | exact Nat.le_refl _⟩, ⟨by (with_reducible repeat (first | refine blk_drewN ?_ _ | refine blk_drew ?_ | refine blk_alloc ?_ _)); exact BK356.out⟩, ⟨by repeat (first | (with_reducible first | exact HB.out | apply below_alloc | apply pw_below_drewN | apply below_drew1 | refine below_set ?_ GE356.out) | exact HB.out)⟩⟩
        case rest =>
          clear HC12
          try clear c1
          try clear c2
          try clear p2
          try clear p6
          try clear c7
          try clear c9
          try clear c9b0
          try clear c9b1
          try clear c10
          try clear c10b0
          try clear c10b1
          try clear c11
          try clear c17
          try clear c17b0
          try clear c17b1
          try clear hcz15_0
          try clear hcz15_1
          try clear hcz15_2
          try clear hcz15_3
          try clear hcz18_0
          try clear hcz18_1
          try clear hcz18_2
          try clear hcz18_3
          try clear hfz15_0
          try clear hfz15_1
          try clear hfz15_2
          try clear hfz15_3
          try clear hfz18_0
          try clear hfz18_1
          try clear hfz18_2
          try clear hfz18_3
          obtain ⟨kq, x51_11, rfl, HA, HJ11, BK356, HB⟩ := hcut
          cases kq with
          | zero => exact absurd HA.out (by simp [weighbridgelaw07_IcmpBack.j0])
          | succ kj11 =>
            have H := HA.out
            clear HA
            simp only [weighbridgelaw07_IcmpBack.j0] at H
            by_cases c19 : x51_11 = true
            · subst c19
              have H1 : (some false) = some r := by rw [if_pos rfl] at H; exact H
              clear H
              have H := H1
              clear H1
              exact absurd ((Option.some.inj H).trans hr_) (by decide)
            · replace c19 := Bool.eq_false_iff.mpr c19
              subst c19
              have H1 : ((icmp_Parse.f t357).bind fun bt359 => (if a4 < 0 then (if t357.size ≤ 281474976710656 then ((some (numsOf t357 : List Int)).bind fun y365 => (if (y365.length : Int) = 0 then (none) else (if 0 ≤ (Int.tmod (wrap64 (Int.tdiv (wrap64 (-(wrap64 (a4 + 1)))) 8)) (y365.length : Int)) then (if (Int.tmod (wrap64 (Int.tdiv (wrap64 (-(wrap64 (a4 + 1)))) 8)) (y365.length : Int)) < (y365.length : Int) then (if 0 ≤ (Int.tmod (wrap64 (-(wrap64 (a4 + 1)))) 8) then ((icmp_Parse.f (strOfNums (y365.set ((Int.tmod (wrap64 (Int.tdiv (wrap64 (-(wrap64 (a4 + 1)))) 8)) (y365.length : Int)) : Int).toNat (Go.bits .xor .u8 (rd y365 (Int.tmod (wrap64 (Int.tdiv (wrap64 (-(wrap64 (a4 + 1)))) 8)) (y365.length : Int))) (shl .u8 1 (Int.tmod (wrap64 (-(wrap64 (a4 + 1)))) 8)))))).bind fun bt370 => ((icmp_MTU.f (wrap64 (a0)) (wrap64 (a1)) a2 (a3.extract 0 ((ji8) : Int).toNat)).bind fun bt376 => (if true = true then (if (bt359.1 == (wrap64 (a0)) && (bt359.2.1 == (wrap64 (a1)) && (bt359.2.2.1 == a2 && (bt359.2.2.2.1.toList == (a3.extract 0 ((ji8) : Int).toNat).toList)))) = true then (if bt359.2.2.2.2 = 0 then (if bt370.2.2.2.2 = 7 then (if (bt370.1 == 0 && (bt370.2.1 == 0 && (bt370.2.2.1 == 0 && (bt370.2.2.2.1.toList == ([] : List UInt8))))) = true then (if a0 = 3 then (if (bt376.2 == (a1 == 4)) = true then (if bt376.2 = true then (some (bt376.1 == (wrap64 (Int.tmod a2 65536)))) else (some true)) else (some false)) else (if (bt376.2 == false) = true then (if bt376.2 = true then (some (bt376.1 == (wrap64 (Int.tmod a2 65536)))) else (some true)) else (some false))) else (some false)) else (some false)) else (some false)) else (some false)) else (some false)))) else (none)) else (none)) else (none)))) else (none)) else (if t357.size ≤ 281474976710656 then ((some (numsOf t357 : List Int)).bind fun y378 => (if (y378.length : Int) = 0 then (none) else (if 0 ≤ (Int.tmod (wrap64 (Int.tdiv a4 8)) (y378.length : Int)) then (if (Int.tmod (wrap64 (Int.tdiv a4 8)) (y378.length : Int)) < (y378.length : Int) then (if 0 ≤ (Int.tmod a4 8) then ((icmp_Parse.f (strOfNums (y378.set ((Int.tmod (wrap64 (Int.tdiv a4 8)) (y378.length : Int)) : Int).toNat (Go.bits .xor .u8 (rd y378 (Int.tmod (wrap64 (Int.tdiv a4 8)) (y378.length : Int))) (shl .u8 1 (Int.tmod a4 8)))))).bind fun bt383 => ((icmp_MTU.f (wrap64 (a0)) (wrap64 (a1)) a2 (a3.extract 0 ((ji8) : Int).toNat)).bind fun bt389 => (if true = true then (if (bt359.1 == (wrap64 (a0)) && (bt359.2.1 == (wrap64 (a1)) && (bt359.2.2.1 == a2 && (bt359.2.2.2.1.toList == (a3.extract 0 ((ji8) : Int).toNat).toList)))) = true then (if bt359.2.2.2.2 = 0 then (if bt383.2.2.2.2 = 7 then (if (bt383.1 == 0 && (bt383.2.1 == 0 && (bt383.2.2.1 == 0 && (bt383.2.2.2.1.toList == ([] : List UInt8))))) = true then (if a0 = 3 then (if (bt389.2 == (a1 == 4)) = true then (if bt389.2 = true then (some (bt389.1 == (wrap64 (Int.tmod a2 65536)))) else (some true)) else (some false)) else (if (bt389.2 == false) = true then (if bt389.2 = true then (some (bt389.1 == (wrap64 (Int.tmod a2 65536)))) else (some true)) else (some false))) else (some false)) else (some false)) else (some false)) else (some false)) else (some false)))) else (none)) else (none)) else (none)))) else (none)))) = some r := by rw [if_neg (show ¬ (false = true) by decide)] at H; exact H
              clear H
              have H := H1
              clear H1
              replace H := Option.bind_eq_some_iff.mp H
              obtain ⟨⟨t359, t360, t361, t362, t363⟩, A200, H⟩ := H
              replace H : (if a4 < 0 then (if t357.size ≤ 281474976710656 then ((some (numsOf t357 : List Int)).bind fun y365 => (if (y365.length : Int) = 0 then (none) else (if 0 ≤ (Int.tmod (wrap64 (Int.tdiv (wrap64 (-(wrap64 (a4 + 1)))) 8)) (y365.length : Int)) then (if (Int.tmod (wrap64 (Int.tdiv (wrap64 (-(wrap64 (a4 + 1)))) 8)) (y365.length : Int)) < (y365.length : Int) then (if 0 ≤ (Int.tmod (wrap64 (-(wrap64 (a4 + 1)))) 8) then ((icmp_Parse.f (strOfNums (y365.set ((Int.tmod (wrap64 (Int.tdiv (wrap64 (-(wrap64 (a4 + 1)))) 8)) (y365.length : Int)) : Int).toNat (Go.bits .xor .u8 (rd y365 (Int.tmod (wrap64 (Int.tdiv (wrap64 (-(wrap64 (a4 + 1)))) 8)) (y365.length : Int))) (shl .u8 1 (Int.tmod (wrap64 (-(wrap64 (a4 + 1)))) 8)))))).bind fun bt370 => ((icmp_MTU.f (wrap64 (a0)) (wrap64 (a1)) a2 (a3.extract 0 ((ji8) : Int).toNat)).bind fun bt376 => (if true = true then (if (t359 == (wrap64 (a0)) && (t360 == (wrap64 (a1)) && (t361 == a2 && (t362.toList == (a3.extract 0 ((ji8) : Int).toNat).toList)))) = true then (if t363 = 0 then (if bt370.2.2.2.2 = 7 then (if (bt370.1 == 0 && (bt370.2.1 == 0 && (bt370.2.2.1 == 0 && (bt370.2.2.2.1.toList == ([] : List UInt8))))) = true then (if a0 = 3 then (if (bt376.2 == (a1 == 4)) = true then (if bt376.2 = true then (some (bt376.1 == (wrap64 (Int.tmod a2 65536)))) else (some true)) else (some false)) else (if (bt376.2 == false) = true then (if bt376.2 = true then (some (bt376.1 == (wrap64 (Int.tmod a2 65536)))) else (some true)) else (some false))) else (some false)) else (some false)) else (some false)) else (some false)) else (some false)))) else (none)) else (none)) else (none)))) else (none)) else (if t357.size ≤ 281474976710656 then ((some (numsOf t357 : List Int)).bind fun y378 => (if (y378.length : Int) = 0 then (none) else (if 0 ≤ (Int.tmod (wrap64 (Int.tdiv a4 8)) (y378.length : Int)) then (if (Int.tmod (wrap64 (Int.tdiv a4 8)) (y378.length : Int)) < (y378.length : Int) then (if 0 ≤ (Int.tmod a4 8) then ((icmp_Parse.f (strOfNums (y378.set ((Int.tmod (wrap64 (Int.tdiv a4 8)) (y378.length : Int)) : Int).toNat (Go.bits .xor .u8 (rd y378 (Int.tmod (wrap64 (Int.tdiv a4 8)) (y378.length : Int))) (shl .u8 1 (Int.tmod a4 8)))))).bind fun bt383 => ((icmp_MTU.f (wrap64 (a0)) (wrap64 (a1)) a2 (a3.extract 0 ((ji8) : Int).toNat)).bind fun bt389 => (if true = true then (if (t359 == (wrap64 (a0)) && (t360 == (wrap64 (a1)) && (t361 == a2 && (t362.toList == (a3.extract 0 ((ji8) : Int).toNat).toList)))) = true then (if t363 = 0 then (if bt383.2.2.2.2 = 7 then (if (bt383.1 == 0 && (bt383.2.1 == 0 && (bt383.2.2.1 == 0 && (bt383.2.2.2.1.toList == ([] : List UInt8))))) = true then (if a0 = 3 then (if (bt389.2 == (a1 == 4)) = true then (if bt389.2 = true then (some (bt389.1 == (wrap64 (Int.tmod a2 65536)))) else (some true)) else (some false)) else (if (bt389.2 == false) = true then (if bt389.2 = true then (some (bt389.1 == (wrap64 (Int.tmod a2 65536)))) else (some true)) else (some false))) else (some false)) else (some false)) else (some false)) else (some false)) else (some false)))) else (none)) else (none)) else (none)))) else (none))) = some r := H
              have A20 := Aside0.mk A200
              clear A200
              by_cases c21 : a4 < 0
              · rw [if_pos c21] at H
                have c21b0 : decide (a4 < 0) = true := decide_eq_true c21
                clear c21
                by_cases c22 : t357.size ≤ 281474976710656
                · rw [if_pos c22] at H
                  have c22b0 := eq_true c22
                  have c22b1 : decide (t357.size ≤ 281474976710656) = true := decide_eq_true c22
                  clear c22
                  obtain ⟨y365, hy365⟩ : ∃ y_ : List Int, y_ = (numsOf t357) := ⟨_, rfl⟩
                  replace H : (if (y365.length : Int) = 0 then (none) else (if 0 ≤ (Int.tmod (wrap64 (Int.tdiv (wrap64 (-(wrap64 (a4 + 1)))) 8)) (y365.length : Int)) then (if (Int.tmod (wrap64 (Int.tdiv (wrap64 (-(wrap64 (a4 + 1)))) 8)) (y365.length : Int)) < (y365.length : Int) then (if 0 ≤ (Int.tmod (wrap64 (-(wrap64 (a4 + 1)))) 8) then ((icmp_Parse.f (strOfNums (y365.set ((Int.tmod (wrap64 (Int.tdiv (wrap64 (-(wrap64 (a4 + 1)))) 8)) (y365.length : Int)) : Int).toNat (Go.bits .xor .u8 (rd y365 (Int.tmod (wrap64 (Int.tdiv (wrap64 (-(wrap64 (a4 + 1)))) 8)) (y365.length : Int))) (shl .u8 1 (Int.tmod (wrap64 (-(wrap64 (a4 + 1)))) 8)))))).bind fun bt370 => ((icmp_MTU.f (wrap64 (a0)) (wrap64 (a1)) a2 (a3.extract 0 ((ji8) : Int).toNat)).bind fun bt376 => (if true = true then (if (t359 == (wrap64 (a0)) && (t360 == (wrap64 (a1)) && (t361 == a2 && (t362.toList == (a3.extract 0 ((ji8) : Int).toNat).toList)))) = true then (if t363 = 0 then (if bt370.2.2.2.2 = 7 then (if (bt370.1 == 0 && (bt370.2.1 == 0 && (bt370.2.2.1 == 0 && (bt370.2.2.2.1.toList == ([] : List UInt8))))) = true then (if a0 = 3 then (if (bt376.2 == (a1 == 4)) = true then (if bt376.2 = true then (some (bt376.1 == (wrap64 (Int.tmod a2 65536)))) else (some true)) else (some false)) else (if (bt376.2 == false) = true then (if bt376.2 = true then (some (bt376.1 == (wrap64 (Int.tmod a2 65536)))) else (some true)) else (some false))) else (some false)) else (some false)) else (some false)) else (some false)) else (some false)))) else (none)) else (none)) else (none))) = some r := by first | (rw [hy365]; with_reducible exact H) | (have H2_ := (Option.bind_some _ _).symm.trans H; rw [hy365]; with_reducible exact H2_) | (have H2_ := (Option.bind_some _ _).symm.trans H; with_reducible exact H2_) | with_reducible exact H | (rw [hy365]; exact H) | exact H
                  have Ny365 := Aside0.mk hy365
                  clear hy365
                  by_cases c23 : (y365.length : Int) = 0
                  · rw [if_pos c23] at H
                    exact absurd H (by simp)
                  · rw [if_neg c23] at H
                    have c23b0 : ((y365.length : Int) == 0) = false := beq_eq_false_iff_ne.mpr c23
                    have c23b1 : ((y365.length : Int) != 0) = true := bne_iff_ne.mpr c23
                    have c23b2 : ¬ (y365 = []) := fun h_ => c23 (by rw [h_]; rfl)
                    obtain ⟨ji24, hji24⟩ : ∃ j_ : Int, (Int.tmod (wrap64 (Int.tdiv (wrap64 (-(wrap64 (a4 + 1)))) 8)) (y365.length : Int)) = j_ := ⟨_, rfl⟩
                    replace H : (if 0 ≤ (ji24) then (if (ji24) < (y365.length : Int) then (if 0 ≤ (Int.tmod (wrap64 (-(wrap64 (a4 + 1)))) 8) then ((icmp_Parse.f (strOfNums (y365.set ((ji24) : Int).toNat (Go.bits .xor .u8 (rd y365 (ji24)) (shl .u8 1 (Int.tmod (wrap64 (-(wrap64 (a4 + 1)))) 8)))))).bind fun bt370 => ((icmp_MTU.f (wrap64 (a0)) (wrap64 (a1)) a2 (a3.extract 0 ((ji8) : Int).toNat)).bind fun bt376 => (if true = true then (if (t359 == (wrap64 (a0)) && (t360 == (wrap64 (a1)) && (t361 == a2 && (t362.toList == (a3.extract 0 ((ji8) : Int).toNat).toList)))) = true then (if t363 = 0 then (if bt370.2.2.2.2 = 7 then (if (bt370.1 == 0 && (bt370.2.1 == 0 && (bt370.2.2.1 == 0 && (bt370.2.2.2.1.toList == ([] : List UInt8))))) = true then (if a0 = 3 then (if (bt376.2 == (a1 == 4)) = true then (if bt376.2 = true then (some (bt376.1 == (wrap64 (Int.tmod a2 65536)))) else (some true)) else (some false)) else (if (bt376.2 == false) = true then (if bt376.2 = true then (some (bt376.1 == (wrap64 (Int.tmod a2 65536)))) else (some true)) else (some false))) else (some false)) else (some false)) else (some false)) else (some false)) else (some false)))) else (none)) else (none)) else (none)) = some r := by first | (rw [hji24] at H; exact H) | (simp only [hji24] at H ⊢; exact H)
                    (try rw [hji24] at A20)
                    by_cases c25 : 0 ≤ (ji24)
                    · rw [if_pos c25] at H
                      have c25b0 : decide (0 ≤ (ji24)) = true := decide_eq_true c25
                      clear c25
                      by_cases c26 : (ji24) < (y365.length : Int)
                      · rw [if_pos c26] at H
                        have c26b0 : decide ((ji24) < (y365.length : Int)) = true := decide_eq_true c26
                        clear c26
                        obtain ⟨ji27, hji27⟩ : ∃ j_ : Int, (Int.tmod (wrap64 (-(wrap64 (a4 + 1)))) 8) = j_ := ⟨_, rfl⟩
                        replace H : (if 0 ≤ (ji27) then ((icmp_Parse.f (strOfNums (y365.set ((ji24) : Int).toNat (Go.bits .xor .u8 (rd y365 (ji24)) (shl .u8 1 (ji27)))))).bind fun bt370 => ((icmp_MTU.f (wrap64 (a0)) (wrap64 (a1)) a2 (a3.extract 0 ((ji8) : Int).toNat)).bind fun bt376 => (if true = true then (if (t359 == (wrap64 (a0)) && (t360 == (wrap64 (a1)) && (t361 == a2 && (t362.toList == (a3.extract 0 ((ji8) : Int).toNat).toList)))) = true then (if t363 = 0 then (if bt370.2.2.2.2 = 7 then (if (bt370.1 == 0 && (bt370.2.1 == 0 && (bt370.2.2.1 == 0 && (bt370.2.2.2.1.toList == ([] : List UInt8))))) = true then (if a0 = 3 then (if (bt376.2 == (a1 == 4)) = true then (if bt376.2 = true then (some (bt376.1 == (wrap64 (Int.tmod a2 65536)))) else (some true)) else (some false)) else (if (bt376.2 == false) = true then (if bt376.2 = true then (some (bt376.1 == (wrap64 (Int.tmod a2 65536)))) else (some true)) else (some false))) else (some false)) else (some false)) else (some false)) else (some false)) else (some false)))) else (none)) = some r := by first | (rw [hji27] at H; exact H) | (simp only [hji27] at H ⊢; exact H)
                        (try rw [hji27] at A20)
                        by_cases c28 : 0 ≤ (ji27)
                        · rw [if_pos c28] at H
                          have c28b0 := eq_true c28
                          have c28b1 : decide (0 ≤ (ji27)) = true := decide_eq_true c28
                          clear c28
                          obtain ⟨ji29, hji29⟩ : ∃ j_ : Int, (shl .u8 1 (ji27)) = j_ := ⟨_, rfl⟩
                          replace H : ((icmp_Parse.f (strOfNums (y365.set ((ji24) : Int).toNat (Go.bits .xor .u8 (rd y365 (ji24)) (ji29))))).bind fun bt370 => ((icmp_MTU.f (wrap64 (a0)) (wrap64 (a1)) a2 (a3.extract 0 ((ji8) : Int).toNat)).bind fun bt376 => (if true = true then (if (t359 == (wrap64 (a0)) && (t360 == (wrap64 (a1)) && (t361 == a2 && (t362.toList == (a3.extract 0 ((ji8) : Int).toNat).toList)))) = true then (if t363 = 0 then (if bt370.2.2.2.2 = 7 then (if (bt370.1 == 0 && (bt370.2.1 == 0 && (bt370.2.2.1 == 0 && (bt370.2.2.2.1.toList == ([] : List UInt8))))) = true then (if a0 = 3 then (if (bt376.2 == (a1 == 4)) = true then (if bt376.2 = true then (some (bt376.1 == (wrap64 (Int.tmod a2 65536)))) else (some true)) else (some false)) else (if (bt376.2 == false) = true then (if bt376.2 = true then (some (bt376.1 == (wrap64 (Int.tmod a2 65536)))) else (some true)) else (some false))) else (some false)) else (some false)) else (some false)) else (some false)) else (some false)))) = some r := by first | (rw [hji29] at H; exact H) | (simp only [hji29] at H ⊢; exact H)
                          (try rw [hji29] at A20)
                          have hji29_ : (IntKind.u8.wrap (1 * 2 ^ min (ji27).toNat 8)) = ji29 := hji29
                          have hji29z : (ji27) ≤ 8 → (IntKind.u8.wrap (1 * 2 ^ (ji27).toNat)) = ji29 := shl_small hji29
                          have hji29u : (IntKind.u8.wrap (2 ^ min (ji27).toNat 8)) = ji29 := by have h_ := hji29_; rw [Int.one_mul] at h_; exact h_
                          have hji29v : (ji27) ≤ 8 → (IntKind.u8.wrap (2 ^ (ji27).toNat)) = ji29 := fun hle_ => by have h_ := hji29z hle_; rw [Int.one_mul] at h_; exact h_
                          obtain ⟨y369, hy369⟩ : ∃ y_ : List Int, y_ = (y365.set ((ji24) : Int).toNat (Go.bits .xor .u8 (rd y365 (ji24)) (ji29))) := ⟨_, rfl⟩
                          replace H : ((icmp_Parse.f (strOfNums y369)).bind fun bt370 => ((icmp_MTU.f (wrap64 (a0)) (wrap64 (a1)) a2 (a3.extract 0 ((ji8) : Int).toNat)).bind fun bt376 => (if true = true then (if (t359 == (wrap64 (a0)) && (t360 == (wrap64 (a1)) && (t361 == a2 && (t362.toList == (a3.extract 0 ((ji8) : Int).toNat).toList)))) = true then (if t363 = 0 then (if bt370.2.2.2.2 = 7 then (if (bt370.1 == 0 && (bt370.2.1 == 0 && (bt370.2.2.1 == 0 && (bt370.2.2.2.1.toList == ([] : List UInt8))))) = true then (if a0 = 3 then (if (bt376.2 == (a1 == 4)) = true then (if bt376.2 = true then (some (bt376.1 == (wrap64 (Int.tmod a2 65536)))) else (some true)) else (some false)) else (if (bt376.2 == false) = true then (if bt376.2 = true then (some (bt376.1 == (wrap64 (Int.tmod a2 65536)))) else (some true)) else (some false))) else (some false)) else (some false)) else (some false)) else (some false)) else (some false)))) = some r := by first | (rw [hy369]; with_reducible exact H) | (have H2_ := (Option.bind_some _ _).symm.trans H; rw [hy369]; with_reducible exact H2_) | (have H2_ := (Option.bind_some _ _).symm.trans H; with_reducible exact H2_) | with_reducible exact H | (rw [hy369]; exact H) | exact H
                          have Ny369 := Aside0.mk hy369
                          clear hy369
                          replace H := Option.bind_eq_some_iff.mp H
                          obtain ⟨⟨t370, t371, t372, t373, t374⟩, A310, H⟩ := H
                          replace H : ((icmp_MTU.f (wrap64 (a0)) (wrap64 (a1)) a2 (a3.extract 0 ((ji8) : Int).toNat)).bind fun bt376 => (if true = true then (if (t359 == (wrap64 (a0)) && (t360 == (wrap64 (a1)) && (t361 == a2 && (t362.toList == (a3.extract 0 ((ji8) : Int).toNat).toList)))) = true then (if t363 = 0 then (if t374 = 7 then (if (t370 == 0 && (t371 == 0 && (t372 == 0 && (t373.toList == ([] : List UInt8))))) = true then (if a0 = 3 then (if (bt376.2 == (a1 == 4)) = true then (if bt376.2 = true then (some (bt376.1 == (wrap64 (Int.tmod a2 65536)))) else (some true)) else (some false)) else (if (bt376.2 == false) = true then (if bt376.2 = true then (some (bt376.1 == (wrap64 (Int.tmod a2 65536)))) else (some true)) else (some false))) else (some false)) else (some false)) else (some false)) else (some false)) else (some false))) = some r := H
                          have A31 := Aside0.mk A310
                          clear A310
                          replace H := Option.bind_eq_some_iff.mp H
                          obtain ⟨⟨t376, t377⟩, A320, H⟩ := H
                          replace H : (if true = true then (if (t359 == (wrap64 (a0)) && (t360 == (wrap64 (a1)) && (t361 == a2 && (t362.toList == (a3.extract 0 ((ji8) : Int).toNat).toList)))) = true then (if t363 = 0 then (if t374 = 7 then (if (t370 == 0 && (t371 == 0 && (t372 == 0 && (t373.toList == ([] : List UInt8))))) = true then (if a0 = 3 then (if (t377 == (a1 == 4)) = true then (if t377 = true then (some (t376 == (wrap64 (Int.tmod a2 65536)))) else (some true)) else (some false)) else (if (t377 == false) = true then (if t377 = true then (some (t376 == (wrap64 (Int.tmod a2 65536)))) else (some true)) else (some false))) else (some false)) else (some false)) else (some false)) else (some false)) else (some false)) = some r := H
                          have A32 := Aside0.mk A320
                          clear A320
                          have c33 : true = true := rfl
                          · clear c33
                            have H1 : (if (t359 == (wrap64 (a0)) && (t360 == (wrap64 (a1)) && (t361 == a2 && (t362.toList == (a3.extract 0 ((ji8) : Int).toNat).toList)))) = true then (if t363 = 0 then (if t374 = 7 then (if (t370 == 0 && (t371 == 0 && (t372 == 0 && (t373.toList == ([] : List UInt8))))) = true then (if a0 = 3 then (if (t377 == (a1 == 4)) = true then (if t377 = true then (some (t376 == (wrap64 (Int.tmod a2 65536)))) else (some true)) else (some false)) else (if (t377 == false) = true then (if t377 = true then (some (t376 == (wrap64 (Int.tmod a2 65536)))) else (some true)) else (some false))) else (some false)) else (some false)) else (some false)) else (some false)) = some r := by rw [if_pos rfl] at H; exact H
                            clear H
                            have H := H1
                            clear H1
                            by_cases c34 : (t359 == (wrap64 (a0)) && (t360 == (wrap64 (a1)) && (t361 == a2 && (t362.toList == (a3.extract 0 ((ji8) : Int).toNat).toList)))) = true
                            · rw [if_pos c34] at H
                              have c34b0 : (t359 == (wrap64 (a0)) && (t360 == (wrap64 (a1)) && (t361 == a2 && (t362.toList == (a3.extract 0 ((ji8) : Int).toNat).toList)))) = true := c34
                              (try (have c34b1 : decide (t359 = (wrap64 (a0)) && (t360 == (wrap64 (a1)) && (t361 == a2 && (t362.toList == (a3.extract 0 ((ji8) : Int).toNat).toList)))) = true := by simpa using c34))
                              (try (have c34b2 : (t359 == (wrap64 (a0)) && (t360 == (wrap64 (a1)) && (t361 == a2 && (t362.toList == (a3.extract 0 ((ji8) : Int).toNat).toList)))) = true := by simpa using c34))
                              clear c34
                              by_cases c35 : t363 = 0
                              · rw [if_pos c35] at H
                                have c35b0 : (t363 == 0) = true := beq_iff_eq.mpr c35
                                have c35b1 : (t363 != 0) = false := bne_eq_false_iff_eq.mpr c35
                                clear c35
                                by_cases c36 : t374 = 7
                                · rw [if_pos c36] at H
                                  have c36b0 : (t374 == 7) = true := beq_iff_eq.mpr c36
                                  have c36b1 : (t374 != 7) = false := bne_eq_false_iff_eq.mpr c36
                                  clear c36
                                  by_cases c37 : (t370 == 0 && (t371 == 0 && (t372 == 0 && (t373.toList == ([] : List UInt8))))) = true
                                  · rw [if_pos c37] at H
                                    have c37b0 : (t370 == 0 && (t371 == 0 && (t372 == 0 && (t373.toList == ([] : List UInt8))))) = true := c37
                                    (try (have c37bq : (t370 = 0 ∧ (t371 = 0 ∧ (t372 = 0 ∧ (t373.toList = ([] : List UInt8))))) = True := eq_true (by simpa using c37b0)))
                                    (try (have c37b1 : decide (t370 = 0 && (t371 == 0 && (t372 == 0 && (t373.toList == ([] : List UInt8))))) = true := by simpa using c37))
                                    (try (have c37b2 : (t370 == 0 && (t371 == 0 && (t372 == 0 && (t373.toList == ([] : List UInt8))))) = true := by simpa using c37))
                                    clear c37
                                    by_cases c38 : a0 = 3
                                    · rw [if_pos c38] at H
                                      have c38b0 : (a0 == 3) = true := beq_iff_eq.mpr c38
                                      have c38b1 : (a0 != 3) = false := bne_eq_false_iff_eq.mpr c38
                                      clear c38
                                      by_cases c39 : (t377 == (a1 == 4)) = true
                                      · rw [if_pos c39] at H
                                        have c39b0 : (t377 == (a1 == 4)) = true := c39
                                        (try (have c39b1 : decide (t377 = (a1 == 4)) = true := by simpa using c39))
                                        (try (have c39b2 : (t377 == (a1 == 4)) = true := by simpa using c39))
                                        clear c39
                                        by_cases c40 : t377 = true
                                        · subst c40
                                          have H1 : (some (t376 == (wrap64 (Int.tmod a2 65536)))) = some r := by rw [if_pos rfl] at H; exact H
                                          clear H
                                          have H := H1
                                          clear H1
                                          obtain rfl := Option.some.inj H
                                          try go_wp2_with (first | ((with_reducible refine gate_callee (f := 29) rfl ?_); refine goesL_ (some 54) rfl rfl Try.func29 (by kernel_rfl) rfl #[.string t357] rfl (by (try simp only [List.map_toArray, List.map_cons, List.map_nil]); first | done | rfl | (simp only [List.length_drop, List.length_take]; rfl)) ?_; (with_reducible refine (icmp_Parse.calls t357 t359 t360 t361 t362 t363 _ A20.out).mono ?_); rintro e w41 ⟨rfl, hb⟩; (try clear A20); refine ⟨_, rfl, ?_⟩; have n0_ := Aside0.mk (blk_below (g := gb356) (o := .cells #[.int .i64 (wrap64 (a0)), .int .i64 (wrap64 (a1)), .int .u32 a2, .string (a3.extract 0 ((ji8) : Int).toNat)] 45 (0, 0)) (by (with_reducible repeat (first | refine blk_drewN ?_ _ | refine blk_drew ?_ | refine blk_alloc ?_ _)); exact BK356.out) hb); have n1_ := Aside0.mk (below_step (by repeat (first | (with_reducible first | exact HB.out | apply below_alloc | apply pw_below_drewN | apply below_drew1 | refine below_set ?_ GE356.out) | exact HB.out)) hb); clear BK356; clear HB; have BK356 := n0_; have HB := n1_; clear n0_ n1_; (try clear hb); (try clear hb2); (try clear hk); (try clear hi)) | ((with_reducible refine gate_dst (N := 15) rfl ?_); (try (refine gate_guard (by rfl) ?_; dsimp only)); refine box_event ?hg (N := 15) ?hd (cs := #[.int .i64 0, .int .i64 0, .int .u32 0, .string (⟨#[]⟩ : ByteArray)]) (t := 45) ?hr ?_; (case hd => rfl); (case hg => rfl); (case hr => first | (go_simp; done) | (go_simp; rfl)); intro gb364 hg w42 hbox hb; have n0_ := Aside0.mk (blk_below (g := gb356) (o := .cells #[.int .i64 (wrap64 (a0)), .int .i64 (wrap64 (a1)), .int .u32 a2, .string (a3.extract 0 ((ji8) : Int).toNat)] 45 (0, 0)) (by (with_reducible repeat (first | refine blk_drewN ?_ _ | refine blk_drew ?_ | refine blk_alloc ?_ _)); exact BK356.out) hb); have n1_ := Aside0.mk (below_step (by repeat (first | (with_reducible first | exact HB.out | apply below_alloc | apply pw_below_drewN | apply below_drew1 | refine below_set ?_ GE356.out) | exact HB.out)) hb); have n2_ := Aside0.mk (hbox); have n3_ := Aside0.mk ((by rw [hg]; exact (below_size (by repeat (first | (with_reducible first | exact HB.out | apply below_alloc | apply pw_below_drewN | apply below_drew1 | refine below_set ?_ GE356.out) | exact HB.out))) : w.heap.size ≤ gb364)); have n4_ := Aside0.mk ((by rw [hg]; exact (below_size (by repeat (first | (with_reducible first | exact HB.out | apply below_alloc | apply pw_below_drewN | apply below_drew1 | refine below_set ?_ GE356.out) | exact HB.out))) : w.heap.size ≤ gb364)); have n5_ := Aside0.mk ((by rw [hg]; exact Nat.ne_of_lt (blk_lt (g := gb356) (o := .cells #[.int .i64 (wrap64 (a0)), .int .i64 (wrap64 (a1)), .int .u32 a2, .string (a3.extract 0 ((ji8) : Int).toNat)] 45 (0, 0)) (by (with_reducible repeat (first | refine blk_drewN ?_ _ | refine blk_drew ?_ | refine blk_alloc ?_ _)); exact BK356.out)) : gb356 ≠ gb364)); have n6_ := Aside0.mk ((by rw [hg]; exact Nat.ne_of_gt (blk_lt (g := gb356) (o := .cells #[.int .i64 (wrap64 (a0)), .int .i64 (wrap64 (a1)), .int .u32 a2, .string (a3.extract 0 ((ji8) : Int).toNat)] 45 (0, 0)) (by (with_reducible repeat (first | refine blk_drewN ?_ _ | refine blk_drew ?_ | refine blk_alloc ?_ _)); exact BK356.out)) : gb364 ≠ gb356)); clear BK356; clear HB; have BK356 := n0_; have HB := n1_; have BK364 := n2_; have GW364 := n3_; have GE364 := n4_; have NB356_364 := n5_; have NB364_356 := n6_; clear n0_ n1_ n2_ n3_ n4_ n5_ n6_; clear hb hbox hg; have hnb43 := NB364_356.out; have hnc43 := NB356_364.out; have hcz44_0 : w42.cell? ⟨gb364, 0, none⟩ = some (.int .i64 0) := (blk_cell BK364.out 0).trans rfl; have hcz44_1 : w42.cell? ⟨gb364, 1, none⟩ = some (.int .i64 0) := (blk_cell BK364.out 1).trans rfl; have hcz44_2 : w42.cell? ⟨gb364, 2, none⟩ = some (.int .u32 0) := (blk_cell BK364.out 2).trans rfl; have hcz44_3 : w42.cell? ⟨gb364, 3, none⟩ = some (.string (⟨#[]⟩ : ByteArray)) := (blk_cell BK364.out 3).trans rfl; have hfz44_0 := blk_frozen BK364.out 0; have hfz44_1 := blk_frozen BK364.out 1; have hfz44_2 := blk_frozen BK364.out 2; have hfz44_3 := blk_frozen BK364.out 3) | ((with_reducible refine gate_dst (N := 63) rfl ?_); (try (refine gate_guard (by rfl) ?_; dsimp only)); refine Kb.Q_conv (Kd.int .u8) 5 rfl (N := 63) rfl 9 38 _ rfl t357 rfl Try.underlying9 Try.underlying38 Try.underlying5 (ok := fun _ => True) trivial (of_decide_eq_true (by first | (with_reducible assumption) | assumption)) ?_; intro v366 w45 ho46 hb hg_ hnew_; clear hg_ hnew_; (first | rw [← Ny365.out] at ho46 | (simp only [Int.reduceToNat] at ho46; rw [← Ny365.out] at ho46)); have n0_ := Aside0.mk (Kb.Q_lower ho46 (below_size (by repeat (first | (with_reducible first | exact HB.out | apply below_alloc | apply pw_below_drewN | apply below_drew1 | refine below_set ?_ GE356.out | refine below_set ?_ GE364.out) | exact HB.out)))); have n1_ := Aside0.mk (blk_below (g := gb356) (o := .cells #[.int .i64 (wrap64 (a0)), .int .i64 (wrap64 (a1)), .int .u32 a2, .string (a3.extract 0 ((ji8) : Int).toNat)] 45 (0, 0)) (by (with_reducible repeat (first | refine blk_drewN ?_ _ | refine blk_drew ?_ | refine blk_alloc ?_ _)); refine blk_far ?_ NB356_364.out _; (with_reducible repeat (first | refine blk_drewN ?_ _ | refine blk_drew ?_ | refine blk_alloc ?_ _)); refine blk_far ?_ NB356_364.out _; (with_reducible repeat (first | refine blk_drewN ?_ _ | refine blk_drew ?_ | refine blk_alloc ?_ _)); refine blk_far ?_ NB356_364.out _; (with_reducible repeat (first | refine blk_drewN ?_ _ | refine blk_drew ?_ | refine blk_alloc ?_ _)); refine blk_far ?_ NB356_364.out _; (with_reducible repeat (first | refine blk_drewN ?_ _ | refine blk_drew ?_ | refine blk_alloc ?_ _)); exact BK356.out) hb); have n2_ := Aside0.mk (blk_below (g := gb364) (o := .cells #[.int .i64 t359, .int .i64 t360, .int .u32 t361, .string t362] 45 (0, 0)) (by (with_reducible repeat (first | refine blk_drewN ?_ _ | refine blk_drew ?_ | refine blk_alloc ?_ _)); refine blk_put (cs := #[.int .i64 t359, .int .i64 t360, .int .u32 t361, .string (⟨#[]⟩ : ByteArray)]) ?_ 3 _ rfl; (with_reducible repeat (first | refine blk_drewN ?_ _ | refine blk_drew ?_ | refine blk_alloc ?_ _)); refine blk_put (cs := #[.int .i64 t359, .int .i64 t360, .int .u32 0, .string (⟨#[]⟩ : ByteArray)]) ?_ 2 _ rfl; (with_reducible repeat (first | refine blk_drewN ?_ _ | refine blk_drew ?_ | refine blk_alloc ?_ _)); refine blk_put (cs := #[.int .i64 t359, .int .i64 0, .int .u32 0, .string (⟨#[]⟩ : ByteArray)]) ?_ 1 _ rfl; (with_reducible repeat (first | refine blk_drewN ?_ _ | refine blk_drew ?_ | refine blk_alloc ?_ _)); refine blk_put (cs := #[.int .i64 0, .int .i64 0, .int .u32 0, .string (⟨#[]⟩ : ByteArray)]) ?_ 0 _ rfl; (with_reducible repeat (first | refine blk_drewN ?_ _ | refine blk_drew ?_ | refine blk_alloc ?_ _)); exact BK364.out) hb); have n3_ := Aside0.mk (below_step (by repeat (first | (with_reducible first | exact HB.out | apply below_alloc | apply pw_below_drewN | apply below_drew1 | refine below_set ?_ GE356.out | refine below_set ?_ GE364.out) | exact HB.out)) hb); clear BK356; clear BK364; clear HB; have HO367 := n0_; have BK356 := n1_; have BK364 := n2_; have HB := n3_; clear n0_ n1_ n2_ n3_; clear hb ho46))
                                          have n0_ := Aside0.mk (Kb.Q_drew HO367.out)
                                          have n1_ := Aside0.mk (blk_drew BK356.out)
                                          have n2_ := Aside0.mk (blk_drew BK364.out)
                                          have n3_ := Aside0.mk (below_drew1 HB.out)
                                          clear HO367
                                          clear BK356
                                          clear BK364
                                          clear HB
                                          have HO367 := n0_
                                          have BK356 := n1_
                                          have BK364 := n2_
                                          have HB := n3_
                                          clear n0_ n1_ n2_ n3_
                                          obtain ⟨Ao48, co48, eo48, _⟩ := Kb.Q_slice HO367.out
                                          (first | subst eo48 | (injection eo48 with f1_ f2_ f3_; have f4_ := f1_.symm; have f5_ := f3_.symm; clear f1_ f2_ f3_; subst f4_; subst f5_))
                                          have p368 : 0 ≤ ((ji24) : Int) := of_decide_eq_true (by first | (with_reducible assumption) | assumption)
                                          have q368 : (ji24) < (y365.length : Int) := of_decide_eq_true (by first | (with_reducible assumption) | assumption)
                                          obtain ⟨ad368, e368, hx368_0⟩ := Kd.at_int (Kb.Q_reads' HO367.out).2.2 (ji24) p368 q368
                                          cases e368
                                          replace p368 := eq_true p368
                                          replace q368 := eq_true q368
                                          have p30 : 0 ≤ ((ji24) : Int) := of_decide_eq_true (by first | (with_reducible assumption) | assumption)
                                          have q30 : ((ji24) : Int) < ((y365.length : Int) : Int) := of_decide_eq_true (by first | (with_reducible assumption) | assumption)
                                          obtain ⟨go30, co30, eo30, gb30, gl30, cl30, HG30⟩ := Kb.Q_form HO367.out (by omega)
                                          (first | cases eo30 | (injection eo30 with ea_ en_ ec_; (first | subst ea_ | (injection ea_ with ea_; subst ea_)); subst ec_; clear en_))
                                          have GB30 := Aside0.mk gb30
                                          have GG30 := Aside0.mk HG30
                                          clear gb30 gl30 HG30
                                          (first | simp only [add_at, Nat.zero_add] at hx368_0 | skip)
                                          obtain ⟨hx30_0, hf30_0⟩ := Kb.Q_cell 0 HO367.out ((ji24) : Int) p30 q30
                                          replace p30 := eq_true p30
                                          replace q30 := eq_true q30
                                          have HP49 := (Kb.Q_putg HO367.out ((ji24) : Int) (of_decide_eq_true (by first | (with_reducible assumption) | assumption)) (by have h_ : ((ji24) : Int) < ((y365.length : Int) : Int) := of_decide_eq_true (by first | (with_reducible assumption) | assumption); first | exact h_ | (have e_ := (Kb.Q_reads' HO367.out).1; omega) | simpa using h_) (Go.bits .xor .u8 (rd y365 (ji24)) (ji29))).1
                                          rw [← Ny369.out] at HP49
                                          have HQ49 := Aside0.mk HP49
                                          clear HP49
                                          refine start_ (n := 20) (S := fun w' => w'.cell? ⟨go30, ((ji24)).toNat, none⟩ = some (.int .u8 (rd y365 (ji24)))) (ds := [19]) #[false, false, false, false, false, false, false, false, false, false, false, false, false, false, false, false, false, false, false, false] (by kernel_rfl) rfl rfl (hx368_0) (fun hHeld => ?_); refine with_tabW weighbridgelaw07_IcmpBack.tab12 weighbridgelaw07_IcmpBack.bits12 (fun HT_ HW_ => ?_)
                                          generalize w45.drew = w47 at HO367 BK356 BK364 HB GG30 HQ49 hf30_0 hx30_0 hx368_0 hHeld ⊢
                                          refine pure_ (i := 0) (N := some 64) (v := ?_) (a' := ?_) #[true, false, false, false, false, false, false, false, false, false, false, false, false, false, false, false, false, false, false, false] rfl rfl (any_of HT_.out (by kernel_rfl)) (fun _ _ _ h => h) (Or.inl ⟨by rfl, ?_⟩) ?_ ?_
                                          rotate_left
                                          · intro w'
                                            go_simp
                                            with_reducible rfl
                                          rotate_left
                                          · simp only [Act.put, List.setIfInBounds_toArray, List.set_cons_zero, List.set_cons_succ, i64_w, i32_w]
                                            rfl
                                          refine pure_ (i := 1) (N := some 65) (v := ?_) (a' := ?_) #[true, true, false, false, false, false, false, false, false, false, false, false, false, false, false, false, false, false, false, false] rfl rfl (any_of HT_.out (by kernel_rfl)) (fun _ _ _ h => h) (Or.inl ⟨by rfl, ?_⟩) ?_ ?_
                                          rotate_left
                                          · intro w'
                                            go_simp
                                            with_reducible rfl
                                          rotate_left
                                          · simp only [Act.put, List.setIfInBounds_toArray, List.set_cons_zero, List.set_cons_succ, i64_w, i32_w]
                                            rfl
                                          refine pure_ (i := 2) (N := some 66) (v := ?_) (a' := ?_) #[true, true, true, false, false, false, false, false, false, false, false, false, false, false, false, false, false, false, false, false] rfl rfl (any_of HT_.out (by kernel_rfl)) (fun _ _ _ h => h) (Or.inl ⟨by rfl, ?_⟩) ?_ ?_
                                          rotate_left
                                          · intro w'
                                            go_simp
                                            with_reducible rfl
                                          rotate_left
                                          · simp only [Act.put, List.setIfInBounds_toArray, List.set_cons_zero, List.set_cons_succ, i64_w, i32_w]
                                            rfl
                                          refine pure_ (i := 3) (N := some 67) (v := ?_) (a' := ?_) #[true, true, true, true, false, false, false, false, false, false, false, false, false, false, false, false, false, false, false, false] rfl rfl (any_of HT_.out (by kernel_rfl)) (fun _ _ _ h => h) (Or.inl ⟨by rfl, ?_⟩) ?_ ?_
                                          rotate_left
                                          · intro w'
                                            go_simp
                                            with_reducible rfl
                                          rotate_left
                                          · simp only [Act.put, List.setIfInBounds_toArray, List.set_cons_zero, List.set_cons_succ, i64_w, i32_w]
                                            rfl
                                          refine pure_ (i := 4) (N := some 68) (v := ?_) (a' := ?_) #[true, true, true, true, true, false, false, false, false, false, false, false, false, false, false, false, false, false, false, false] rfl rfl (any_of HT_.out (by kernel_rfl)) (fun _ _ _ h => h) (Or.inl ⟨by rfl, ?_⟩) ?_ ?_
                                          rotate_left
                                          · intro w'
                                            go_simp
                                            with_reducible rfl
                                          rotate_left
                                          · simp only [Act.put, List.setIfInBounds_toArray, List.set_cons_zero, List.set_cons_succ, i64_w, i32_w]
                                            rfl
                                          refine pure_ (i := 5) (N := some 69) (v := ?_) (a' := ?_) #[true, true, true, true, true, true, false, false, false, false, false, false, false, false, false, false, false, false, false, false] rfl rfl (any_of HT_.out (by kernel_rfl)) (fun _ _ _ h => h) (Or.inl ⟨by rfl, ?_⟩) ?_ ?_
                                          rotate_left
                                          · intro w'
                                            go_simp
                                            with_reducible rfl
                                          rotate_left
                                          · simp only [Act.put, List.setIfInBounds_toArray, List.set_cons_zero, List.set_cons_succ, i64_w, i32_w]
                                            rfl
                                          refine pure_ (i := 6) (N := some 70) (v := ?_) (a' := ?_) #[true, true, true, true, true, true, true, false, false, false, false, false, false, false, false, false, false, false, false, false] rfl rfl (any_of HT_.out (by kernel_rfl)) (fun _ _ _ h => h) (Or.inl ⟨by rfl, ?_⟩) ?_ ?_
                                          rotate_left
                                          · intro w'
                                            go_simp
                                            with_reducible rfl
                                          rotate_left
                                          · simp only [Act.put, List.setIfInBounds_toArray, List.set_cons_zero, List.set_cons_succ, i64_w, i32_w]
                                            rfl
                                          refine pure_ (i := 7) (N := some 71) (v := ?_) (a' := ?_) #[true, true, true, true, true, true, true, true, false, false, false, false, false, false, false, false, false, false, false, false] rfl rfl (any_of HT_.out (by kernel_rfl)) (fun _ _ _ h => h) (Or.inl ⟨by rfl, ?_⟩) ?_ ?_
                                          rotate_left
                                          · intro w'
                                            go_simp
                                            with_reducible rfl
                                          rotate_left
                                          · simp only [Act.put, List.setIfInBounds_toArray, List.set_cons_zero, List.set_cons_succ, i64_w, i32_w]
                                            rfl
                                          refine pure_ (i := 8) (N := some 72) (v := ?_) (a' := ?_) #[true, true, true, true, true, true, true, true, true, false, false, false, false, false, false, false, false, false, false, false] rfl rfl (any_of HT_.out (by kernel_rfl)) (fun _ _ _ h => h) (Or.inl ⟨by rfl, ?_⟩) ?_ ?_
                                          rotate_left
                                          · intro w'
                                            go_simp
                                            with_reducible rfl
                                          rotate_left
                                          · simp only [Act.put, List.setIfInBounds_toArray, List.set_cons_zero, List.set_cons_succ, i64_w, i32_w]
                                            rfl
                                          refine pure_ (i := 9) (N := some 73) (v := ?_) (a' := ?_) #[true, true, true, true, true, true, true, true, true, true, false, false, false, false, false, false, false, false, false, false] rfl rfl (any_of HT_.out (by kernel_rfl)) (fun _ _ _ h => h) (Or.inl ⟨by rfl, ?_⟩) ?_ ?_
                                          rotate_left
                                          · intro w'
                                            go_simp
                                            with_reducible rfl
                                          rotate_left
                                          · simp only [Act.put, List.setIfInBounds_toArray, List.set_cons_zero, List.set_cons_succ, i64_w, i32_w]
                                            rfl
                                          refine pure_ (i := 10) (N := some 74) (v := ?_) (a' := ?_) #[true, true, true, true, true, true, true, true, true, true, true, false, false, false, false, false, false, false, false, false] rfl rfl (any_of HT_.out (by kernel_rfl)) (fun _ _ _ h => h) (Or.inl ⟨by rfl, ?_⟩) ?_ ?_
                                          rotate_left
                                          · intro w'
                                            go_simp
                                            with_reducible rfl
                                          rotate_left
                                          · simp only [Act.put, List.setIfInBounds_toArray, List.set_cons_zero, List.set_cons_succ, i64_w, i32_w]
                                            rfl
                                          refine pure_ (i := 11) (N := some 75) (v := ?_) (a' := ?_) #[true, true, true, true, true, true, true, true, true, true, true, true, false, false, false, false, false, false, false, false] rfl rfl (any_of HT_.out (by kernel_rfl)) (fun _ _ _ h => h) (Or.inl ⟨by rfl, ?_⟩) ?_ ?_
                                          rotate_left
                                          · intro w'
                                            go_simp
                                            with_reducible rfl
                                          rotate_left
                                          · simp only [Act.put, List.setIfInBounds_toArray, List.set_cons_zero, List.set_cons_succ, i64_w, i32_w]
                                            rfl
                                          refine pure_ (i := 12) (N := some 76) (v := ?_) (a' := ?_) #[true, true, true, true, true, true, true, true, true, true, true, true, true, false, false, false, false, false, false, false] rfl rfl (any_of HT_.out (by kernel_rfl)) (fun _ _ _ h => h) (Or.inl ⟨by rfl, ?_⟩) ?_ ?_
                                          rotate_left
                                          · intro w'
                                            go_simp
                                            with_reducible rfl
                                          rotate_left
                                          · simp only [Act.put, List.setIfInBounds_toArray, List.set_cons_zero, List.set_cons_succ, i64_w, i32_w]
                                            rfl
                                          refine pure_ (i := 14) (N := some 78) (v := ?_) (a' := ?_) #[true, true, true, true, true, true, true, true, true, true, true, true, true, false, true, false, false, false, false, false] rfl rfl (any_of HT_.out (by kernel_rfl)) (fun _ _ _ h => h) (Or.inl ⟨by rfl, ?_⟩) ?_ ?_
                                          rotate_left
                                          · intro w'
                                            go_simp
                                            with_reducible rfl
                                          rotate_left
                                          · simp only [Act.put, List.setIfInBounds_toArray, List.set_cons_zero, List.set_cons_succ, i64_w, i32_w]
                                            rfl
                                          refine pure_ (i := 15) (N := some 79) (v := ?_) (a' := ?_) #[true, true, true, true, true, true, true, true, true, true, true, true, true, false, true, true, false, false, false, false] rfl rfl (any_of HT_.out (by kernel_rfl)) (fun _ _ _ h => h) (Or.inl ⟨by rfl, ?_⟩) ?_ ?_
                                          rotate_left
                                          · intro w'
                                            go_simp
                                            with_reducible rfl
                                          rotate_left
                                          · simp only [Act.put, List.setIfInBounds_toArray, List.set_cons_zero, List.set_cons_succ, i64_w, i32_w]
                                            rfl
                                          refine pure_ (i := 16) (N := some 80) (v := ?_) (a' := ?_) #[true, true, true, true, true, true, true, true, true, true, true, true, true, false, true, true, true, false, false, false] rfl rfl (any_of HT_.out (by kernel_rfl)) (fun _ _ _ h => h) (Or.inl ⟨by rfl, ?_⟩) ?_ ?_
                                          rotate_left
                                          · intro w'
                                            go_simp
                                            with_reducible rfl
                                          rotate_left
                                          · simp only [Act.put, List.setIfInBounds_toArray, List.set_cons_zero, List.set_cons_succ, i64_w, i32_w]
                                            rfl
                                          refine take_ (i := 13) (N := some 77) (v := ?_) (a' := ?_) #[true, true, true, true, true, true, true, true, true, true, true, true, true, true, true, true, true, false, false, false] rfl rfl (take_ofW HT_.out HW_.out (by kernel_rfl)) (fun _ _ _ h => h) (Or.inl ⟨by rfl, ?_⟩) hHeld ?_ ?_
                                          rotate_left
                                          · intro w' s0
                                            go_simp
                                            with_reducible rfl
                                          rotate_left
                                          · simp only [Act.put, List.setIfInBounds_toArray, List.set_cons_zero, List.set_cons_succ, i64_w, i32_w]
                                            rfl
                                          refine pure_ (i := 17) (N := some 81) (v := ?_) (a' := ?_) #[true, true, true, true, true, true, true, true, true, true, true, true, true, true, true, true, true, true, false, false] rfl rfl (any_of HT_.out (by kernel_rfl)) (fun _ _ _ h => h) (Or.inl ⟨by rfl, ?_⟩) ?_ ?_
                                          rotate_left
                                          · intro w'
                                            go_simp
                                            with_reducible rfl
                                          rotate_left
                                          · simp only [Act.put, List.setIfInBounds_toArray, List.set_cons_zero, List.set_cons_succ, i64_w, i32_w]
                                            rfl
                                          refine pure_ (i := 18) (N := some 82) (v := ?_) (a' := ?_) #[true, true, true, true, true, true, true, true, true, true, true, true, true, true, true, true, true, true, true, false] rfl rfl (any_of HT_.out (by kernel_rfl)) (fun _ _ _ h => h) (Or.inl ⟨by rfl, ?_⟩) ?_ ?_
                                          rotate_left
                                          · intro w'
                                            go_simp
                                            with_reducible rfl
                                          rotate_left
                                          · simp only [Act.put, List.setIfInBounds_toArray, List.set_cons_zero, List.set_cons_succ, i64_w, i32_w]
                                            rfl
                                          refine last_ (i := 19) (N := none) #[true, true, true, true, true, true, true, true, true, true, true, true, true, true, true, true, true, true, true, true] rfl rfl (one_of HT_.out (by kernel_rfl)) (by decide) (fun K hK => ?_)
                                          refine skip_ (w1 := ?_) (by rfl) rfl ?_ ?_
                                          rotate_left
                                          · go_simp
                                            rfl
                                          refine hK.out _ _ ?_
                                          clear hK K
                                          refine done_ (done_of HT_.out (by kernel_rfl)) ?_
                                          have n0_ : Aside0 (Kb.Q (Kd.int .u8) 5 (w47.setCell ⟨go30, ((ji24) : Int).toNat, none⟩ (.int .u8 (Go.bits .xor .u8 (rd y365 (ji24)) (ji29)))) w.heap.size (fun _ => True) (.slice (some ⟨go30, 0, none⟩) y365.length co48) y369) := ⟨by (with_reducible repeat (first | apply Kb.Q_alloc | apply Kb.Q_drewN | apply Kb.Q_drew)); exact HQ49.out⟩
                                          have n1_ : Aside0 ((w47.setCell ⟨go30, ((ji24) : Int).toNat, none⟩ (.int .u8 (Go.bits .xor .u8 (rd y365 (ji24)) (ji29)))).heap[gb356]? = some (.cells #[.int .i64 (wrap64 (a0)), .int .i64 (wrap64 (a1)), .int .u32 a2, .string (a3.extract 0 ((ji8) : Int).toNat)] 45 (0, 0))) := ⟨by (with_reducible repeat (first | refine blk_drewN ?_ _ | refine blk_drew ?_ | refine blk_alloc ?_ _)); refine blk_far ?_ (by have h_ := Kb.Q_ne HO367.out BK356.out (by decide); intro e_; exact h_ (by rw [e_]; rfl)) _; (with_reducible repeat (first | refine blk_drewN ?_ _ | refine blk_drew ?_ | refine blk_alloc ?_ _)); exact BK356.out⟩
                                          have n2_ : Aside0 ((w47.setCell ⟨go30, ((ji24) : Int).toNat, none⟩ (.int .u8 (Go.bits .xor .u8 (rd y365 (ji24)) (ji29)))).heap[gb364]? = some (.cells #[.int .i64 t359, .int .i64 t360, .int .u32 t361, .string t362] 45 (0, 0))) := ⟨by (with_reducible repeat (first | refine blk_drewN ?_ _ | refine blk_drew ?_ | refine blk_alloc ?_ _)); refine blk_far ?_ (by have h_ := Kb.Q_ne HO367.out BK364.out (by decide); intro e_; exact h_ (by rw [e_]; rfl)) _; (with_reducible repeat (first | refine blk_drewN ?_ _ | refine blk_drew ?_ | refine blk_alloc ?_ _)); exact BK364.out⟩
                                          have n3_ : Aside0 (Below w.heap.size w (w47.setCell ⟨go30, ((ji24) : Int).toNat, none⟩ (.int .u8 (Go.bits .xor .u8 (rd y365 (ji24)) (ji29))))) := ⟨by repeat (first | (with_reducible first | exact HB.out | apply below_alloc | apply pw_below_drewN | apply below_drew1 | refine below_set ?_ GB30.out | refine below_set ?_ GE356.out | refine below_set ?_ GE364.out) | exact HB.out)⟩
                                          (try clear HO367)
                                          (try clear BK356)
                                          (try clear BK364)
                                          (try clear HB)
                                          generalize (w47.setCell ⟨go30, ((ji24) : Int).toNat, none⟩ (.int .u8 (Go.bits .xor .u8 (rd y365 (ji24)) (ji29)))) = w50 at n0_ n1_ n2_ n3_ ⊢
                                          have HO367 := n0_
                                          have BK356 := n1_
                                          have BK364 := n2_
                                          have HB := n3_
                                          clear n0_ n1_ n2_ n3_
                                          have hcv51 := Kb.Q_string (P := Try.prog) Try.underlying38 Try.underlying5 Try.underlying9 (HO367.out)
                                          try go_wp2_with (first | ((with_reducible refine gate_callee (f := 29) rfl ?_); refine goesL_ (some 86) rfl rfl Try.func29 (by kernel_rfl) rfl #[.string (strOfNums y369)] rfl (by (try simp only [List.map_toArray, List.map_cons, List.map_nil]); first | done | rfl | (simp only [List.length_drop, List.length_take]; rfl)) ?_; (with_reducible refine (icmp_Parse.calls (strOfNums y369) t370 t371 t372 t373 t374 _ A31.out).mono ?_); rintro e w52 ⟨rfl, hb⟩; (try clear A31); refine ⟨_, rfl, ?_⟩; have n0_ := Aside0.mk (Kb.Q_below (by (with_reducible repeat (first | apply Kb.Q_alloc | apply Kb.Q_drewN | apply Kb.Q_drew)); exact HO367.out) hb); have n1_ := Aside0.mk (blk_below (g := gb356) (o := .cells #[.int .i64 (wrap64 (a0)), .int .i64 (wrap64 (a1)), .int .u32 a2, .string (a3.extract 0 ((ji8) : Int).toNat)] 45 (0, 0)) (by (with_reducible repeat (first | refine blk_drewN ?_ _ | refine blk_drew ?_ | refine blk_alloc ?_ _)); exact BK356.out) hb); have n2_ := Aside0.mk (blk_below (g := gb364) (o := .cells #[.int .i64 t359, .int .i64 t360, .int .u32 t361, .string t362] 45 (0, 0)) (by (with_reducible repeat (first | refine blk_drewN ?_ _ | refine blk_drew ?_ | refine blk_alloc ?_ _)); exact BK364.out) hb); have n3_ := Aside0.mk (below_step (by repeat (first | (with_reducible first | exact HB.out | apply below_alloc | apply pw_below_drewN | apply below_drew1 | refine below_set ?_ GE356.out | refine below_set ?_ GE364.out) | exact HB.out)) hb); clear HO367; clear BK356; clear BK364; clear HB; have HO367 := n0_; have BK356 := n1_; have BK364 := n2_; have HB := n3_; clear n0_ n1_ n2_ n3_; (try clear hb); (try clear hb2); (try clear hk); (try clear hi)) | ((with_reducible refine gate_dst (N := 18) rfl ?_); (try (refine gate_guard (by rfl) ?_; dsimp only)); refine box_event ?hg (N := 18) ?hd (cs := #[.int .i64 0, .int .i64 0, .int .u32 0, .string (⟨#[]⟩ : ByteArray)]) (t := 45) ?hr ?_; (case hd => rfl); (case hg => rfl); (case hr => first | (go_simp; done) | (go_simp; rfl)); intro gb375 hg w53 hbox hb; have n0_ := Aside0.mk (Kb.Q_below (by (with_reducible repeat (first | apply Kb.Q_alloc | apply Kb.Q_drewN | apply Kb.Q_drew)); exact HO367.out) hb); have n1_ := Aside0.mk (blk_below (g := gb356) (o := .cells #[.int .i64 (wrap64 (a0)), .int .i64 (wrap64 (a1)), .int .u32 a2, .string (a3.extract 0 ((ji8) : Int).toNat)] 45 (0, 0)) (by (with_reducible repeat (first | refine blk_drewN ?_ _ | refine blk_drew ?_ | refine blk_alloc ?_ _)); exact BK356.out) hb); have n2_ := Aside0.mk (blk_below (g := gb364) (o := .cells #[.int .i64 t359, .int .i64 t360, .int .u32 t361, .string t362] 45 (0, 0)) (by (with_reducible repeat (first | refine blk_drewN ?_ _ | refine blk_drew ?_ | refine blk_alloc ?_ _)); exact BK364.out) hb); have n3_ := Aside0.mk (below_step (by repeat (first | (with_reducible first | exact HB.out | apply below_alloc | apply pw_below_drewN | apply below_drew1 | refine below_set ?_ GE356.out | refine below_set ?_ GE364.out) | exact HB.out)) hb); have n4_ := Aside0.mk (hbox); have n5_ := Aside0.mk ((by rw [hg]; exact (below_size (by repeat (first | (with_reducible first | exact HB.out | apply below_alloc | apply pw_below_drewN | apply below_drew1 | refine below_set ?_ GE356.out | refine below_set ?_ GE364.out) | exact HB.out))) : w.heap.size ≤ gb375)); have n6_ := Aside0.mk ((by rw [hg]; exact (below_size (by repeat (first | (with_reducible first | exact HB.out | apply below_alloc | apply pw_below_drewN | apply below_drew1 | refine below_set ?_ GE356.out | refine below_set ?_ GE364.out) | exact HB.out))) : w.heap.size ≤ gb375)); have n7_ := Aside0.mk ((by rw [hg]; exact Nat.ne_of_lt (blk_lt (g := gb356) (o := .cells #[.int .i64 (wrap64 (a0)), .int .i64 (wrap64 (a1)), .int .u32 a2, .string (a3.extract 0 ((ji8) : Int).toNat)] 45 (0, 0)) (by (with_reducible repeat (first | refine blk_drewN ?_ _ | refine blk_drew ?_ | refine blk_alloc ?_ _)); exact BK356.out)) : gb356 ≠ gb375)); have n8_ := Aside0.mk ((by rw [hg]; exact Nat.ne_of_gt (blk_lt (g := gb356) (o := .cells #[.int .i64 (wrap64 (a0)), .int .i64 (wrap64 (a1)), .int .u32 a2, .string (a3.extract 0 ((ji8) : Int).toNat)] 45 (0, 0)) (by (with_reducible repeat (first | refine blk_drewN ?_ _ | refine blk_drew ?_ | refine blk_alloc ?_ _)); exact BK356.out)) : gb375 ≠ gb356)); have n9_ := Aside0.mk ((by rw [hg]; exact Nat.ne_of_lt (blk_lt (g := gb364) (o := .cells #[.int .i64 t359, .int .i64 t360, .int .u32 t361, .string t362] 45 (0, 0)) (by (with_reducible repeat (first | refine blk_drewN ?_ _ | refine blk_drew ?_ | refine blk_alloc ?_ _)); exact BK364.out)) : gb364 ≠ gb375)); have n10_ := Aside0.mk ((by rw [hg]; exact Nat.ne_of_gt (blk_lt (g := gb364) (o := .cells #[.int .i64 t359, .int .i64 t360, .int .u32 t361, .string t362] 45 (0, 0)) (by (with_reducible repeat (first | refine blk_drewN ?_ _ | refine blk_drew ?_ | refine blk_alloc ?_ _)); exact BK364.out)) : gb375 ≠ gb364)); clear HO367; clear BK356; clear BK364; clear HB; have HO367 := n0_; have BK356 := n1_; have BK364 := n2_; have HB := n3_; have BK375 := n4_; have GW375 := n5_; have GE375 := n6_; have NB356_375 := n7_; have NB375_356 := n8_; have NB364_375 := n9_; have NB375_364 := n10_; clear n0_ n1_ n2_ n3_ n4_ n5_ n6_ n7_ n8_ n9_ n10_; clear hb hbox hg; have hnb54 := NB375_356.out; have hnc54 := NB356_375.out; have hnb55 := NB375_364.out; have hnc55 := NB364_375.out; have hcz56_0 : w53.cell? ⟨gb375, 0, none⟩ = some (.int .i64 0) := (blk_cell BK375.out 0).trans rfl; have hcz56_1 : w53.cell? ⟨gb375, 1, none⟩ = some (.int .i64 0) := (blk_cell BK375.out 1).trans rfl; have hcz56_2 : w53.cell? ⟨gb375, 2, none⟩ = some (.int .u32 0) := (blk_cell BK375.out 2).trans rfl; have hcz56_3 : w53.cell? ⟨gb375, 3, none⟩ = some (.string (⟨#[]⟩ : ByteArray)) := (blk_cell BK375.out 3).trans rfl; have hfz56_0 := blk_frozen BK375.out 0; have hfz56_1 := blk_frozen BK375.out 1; have hfz56_2 := blk_frozen BK375.out 2; have hfz56_3 := blk_frozen BK375.out 3; have hcz57_0 : w53.cell? ⟨gb356, 0, none⟩ = some (.int .i64 (wrap64 (a0))) := (blk_cell BK356.out 0).trans rfl; have hcz57_1 : w53.cell? ⟨gb356, 1, none⟩ = some (.int .i64 (wrap64 (a1))) := (blk_cell BK356.out 1).trans rfl; have hcz57_2 : w53.cell? ⟨gb356, 2, none⟩ = some (.int .u32 a2) := (blk_cell BK356.out 2).trans rfl; have hcz57_3 : w53.cell? ⟨gb356, 3, none⟩ = some (.string (a3.extract 0 ((ji8) : Int).toNat)) := (blk_cell BK356.out 3).trans rfl; have hfz57_0 := blk_frozen BK356.out 0; have hfz57_1 := blk_frozen BK356.out 1; have hfz57_2 := blk_frozen BK356.out 2; have hfz57_3 := blk_frozen BK356.out 3) | ((with_reducible refine gate_callee (f := 25) rfl ?_); refine goesL_ (some 91) rfl rfl Try.func25 (by kernel_rfl) rfl #[.agg #[.int .i64 (wrap64 (a0)), .int .i64 (wrap64 (a1)), .int .u32 a2, .string (a3.extract 0 ((ji8) : Int).toNat)]] rfl (by (try simp only [List.map_toArray, List.map_cons, List.map_nil]); first | done | (simp only [hji8]; rfl) | rfl | (simp only [List.length_drop, List.length_take]; rfl)) ?_; (with_reducible refine (icmp_MTU.calls (wrap64 (a0)) (wrap64 (a1)) a2 (a3.extract 0 ((ji8) : Int).toNat) t376 true _ A32.out).mono ?_); rintro e w58 ⟨rfl, hb⟩; (try clear A32); refine ⟨_, rfl, ?_⟩; have n0_ := Aside0.mk (Kb.Q_below (by (with_reducible repeat (first | apply Kb.Q_alloc | apply Kb.Q_drewN | apply Kb.Q_drew)); exact (Kb.Q_mono (Kb.Q_far (p := ⟨gb375, 3, none⟩) (Kb.Q_far (p := ⟨gb375, 2, none⟩) (Kb.Q_far (p := ⟨gb375, 1, none⟩) (Kb.Q_far (p := ⟨gb375, 0, none⟩) (Kb.Q_types HO367.out BK375.out (by decide)) (fun _ hk => hk.2) (.int .i64 t370)) (fun _ hk => hk.2) (.int .i64 t371)) (fun _ hk => hk.2) (.int .u32 t372)) (fun _ hk => hk.2) (.string t373)) (fun _ h_ => h_.1))) hb); have n1_ := Aside0.mk (blk_below (g := gb356) (o := .cells #[.int .i64 (wrap64 (a0)), .int .i64 (wrap64 (a1)), .int .u32 a2, .string (a3.extract 0 ((ji8) : Int).toNat)] 45 (0, 0)) (by (with_reducible repeat (first | refine blk_drewN ?_ _ | refine blk_drew ?_ | refine blk_alloc ?_ _)); refine blk_far ?_ NB356_375.out _; (with_reducible repeat (first | refine blk_drewN ?_ _ | refine blk_drew ?_ | refine blk_alloc ?_ _)); refine blk_far ?_ NB356_375.out _; (with_reducible repeat (first | refine blk_drewN ?_ _ | refine blk_drew ?_ | refine blk_alloc ?_ _)); refine blk_far ?_ NB356_375.out _; (with_reducible repeat (first | refine blk_drewN ?_ _ | refine blk_drew ?_ | refine blk_alloc ?_ _)); refine blk_far ?_ NB356_375.out _; (with_reducible repeat (first | refine blk_drewN ?_ _ | refine blk_drew ?_ | refine blk_alloc ?_ _)); exact BK356.out) hb); have n2_ := Aside0.mk (blk_below (g := gb364) (o := .cells #[.int .i64 t359, .int .i64 t360, .int .u32 t361, .string t362] 45 (0, 0)) (by (with_reducible repeat (first | refine blk_drewN ?_ _ | refine blk_drew ?_ | refine blk_alloc ?_ _)); refine blk_far ?_ NB364_375.out _; (with_reducible repeat (first | refine blk_drewN ?_ _ | refine blk_drew ?_ | refine blk_alloc ?_ _)); refine blk_far ?_ NB364_375.out _; (with_reducible repeat (first | refine blk_drewN ?_ _ | refine blk_drew ?_ | refine blk_alloc ?_ _)); refine blk_far ?_ NB364_375.out _; (with_reducible repeat (first | refine blk_drewN ?_ _ | refine blk_drew ?_ | refine blk_alloc ?_ _)); refine blk_far ?_ NB364_375.out _; (with_reducible repeat (first | refine blk_drewN ?_ _ | refine blk_drew ?_ | refine blk_alloc ?_ _)); exact BK364.out) hb); have n3_ := Aside0.mk (blk_below (g := gb375) (o := .cells #[.int .i64 t370, .int .i64 t371, .int .u32 t372, .string t373] 45 (0, 0)) (by (with_reducible repeat (first | refine blk_drewN ?_ _ | refine blk_drew ?_ | refine blk_alloc ?_ _)); refine blk_put (cs := #[.int .i64 t370, .int .i64 t371, .int .u32 t372, .string (⟨#[]⟩ : ByteArray)]) ?_ 3 _ rfl; (with_reducible repeat (first | refine blk_drewN ?_ _ | refine blk_drew ?_ | refine blk_alloc ?_ _)); refine blk_put (cs := #[.int .i64 t370, .int .i64 t371, .int .u32 0, .string (⟨#[]⟩ : ByteArray)]) ?_ 2 _ rfl; (with_reducible repeat (first | refine blk_drewN ?_ _ | refine blk_drew ?_ | refine blk_alloc ?_ _)); refine blk_put (cs := #[.int .i64 t370, .int .i64 0, .int .u32 0, .string (⟨#[]⟩ : ByteArray)]) ?_ 1 _ rfl; (with_reducible repeat (first | refine blk_drewN ?_ _ | refine blk_drew ?_ | refine blk_alloc ?_ _)); refine blk_put (cs := #[.int .i64 0, .int .i64 0, .int .u32 0, .string (⟨#[]⟩ : ByteArray)]) ?_ 0 _ rfl; (with_reducible repeat (first | refine blk_drewN ?_ _ | refine blk_drew ?_ | refine blk_alloc ?_ _)); exact BK375.out) hb); have n4_ := Aside0.mk (below_step (by repeat (first | (with_reducible first | exact HB.out | apply below_alloc | apply pw_below_drewN | apply below_drew1 | refine below_set ?_ GE356.out | refine below_set ?_ GE364.out | refine below_set ?_ GE375.out) | exact HB.out)) hb); clear HO367; clear BK356; clear BK364; clear BK375; clear HB; have HO367 := n0_; have BK356 := n1_; have BK364 := n2_; have BK375 := n3_; have HB := n4_; clear n0_ n1_ n2_ n3_ n4_; (try clear hb); (try clear hb2); (try clear hk); (try clear hi); have hcz59_0 : w58.cell? ⟨gb364, 0, none⟩ = some (.int .i64 t359) := (blk_cell BK364.out 0).trans rfl; have hcz59_1 : w58.cell? ⟨gb364, 1, none⟩ = some (.int .i64 t360) := (blk_cell BK364.out 1).trans rfl; have hcz59_2 : w58.cell? ⟨gb364, 2, none⟩ = some (.int .u32 t361) := (blk_cell BK364.out 2).trans rfl; have hcz59_3 : w58.cell? ⟨gb364, 3, none⟩ = some (.string t362) := (blk_cell BK364.out 3).trans rfl; have hfz59_0 := blk_frozen BK364.out 0; have hfz59_1 := blk_frozen BK364.out 1; have hfz59_2 := blk_frozen BK364.out 2; have hfz59_3 := blk_frozen BK364.out 3; have hcz60_0 : w58.cell? ⟨gb356, 0, none⟩ = some (.int .i64 (wrap64 (a0))) := (blk_cell BK356.out 0).trans rfl; have hcz60_1 : w58.cell? ⟨gb356, 1, none⟩ = some (.int .i64 (wrap64 (a1))) := (blk_cell BK356.out 1).trans rfl; have hcz60_2 : w58.cell? ⟨gb356, 2, none⟩ = some (.int .u32 a2) := (blk_cell BK356.out 2).trans rfl; have hcz60_3 : w58.cell? ⟨gb356, 3, none⟩ = some (.string (a3.extract 0 ((ji8) : Int).toNat)) := (blk_cell BK356.out 3).trans rfl; have hfz60_0 := blk_frozen BK356.out 0; have hfz60_1 := blk_frozen BK356.out 1; have hfz60_2 := blk_frozen BK356.out 2; have hfz60_3 := blk_frozen BK356.out 3; have hcz61_0 : w58.cell? ⟨gb375, 0, none⟩ = some (.int .i64 t370) := (blk_cell BK375.out 0).trans rfl; have hcz61_1 : w58.cell? ⟨gb375, 1, none⟩ = some (.int .i64 t371) := (blk_cell BK375.out 1).trans rfl; have hcz61_2 : w58.cell? ⟨gb375, 2, none⟩ = some (.int .u32 t372) := (blk_cell BK375.out 2).trans rfl; have hcz61_3 : w58.cell? ⟨gb375, 3, none⟩ = some (.string t373) := (blk_cell BK375.out 3).trans rfl; have hfz61_0 := blk_frozen BK375.out 0; have hfz61_1 := blk_frozen BK375.out 1; have hfz61_2 := blk_frozen BK375.out 2; have hfz61_3 := blk_frozen BK375.out 3))
                                          go_ret
                                          exact ⟨by first | rfl | (simp [errW_none, errW_some] <;> rfl) | (simp only [← hji8, ← hji24, ← hji27, ← hji29]; first | rfl | (simp [errW_none, errW_some] <;> rfl)) | (simp [*, errW_none, errW_some] <;> rfl), by repeat (first | (with_reducible first | exact HB.out | apply below_alloc | apply pw_below_drewN | apply below_drew1 | refine below_set ?_ GE356.out | refine below_set ?_ GE364.out | refine below_set ?_ GE375.out) | exact HB.out)⟩
                                        · replace c40 := Bool.eq_false_iff.mpr c40
                                          subst c40
                                          have H1 : (some true) = some r := by rw [if_neg (show ¬ (false = true) by decide)] at H; exact H
                                          clear H
                                          have H := H1
                                          clear H1
                                          obtain rfl := Option.some.inj H
                                          try go_wp2_with (first | ((with_reducible refine gate_callee (f := 29) rfl ?_); refine goesL_ (some 54) rfl rfl Try.func29 (by kernel_rfl) rfl #[.string t357] rfl (by (try simp only [List.map_toArray, List.map_cons, List.map_nil]); first | done | rfl | (simp only [List.length_drop, List.length_take]; rfl)) ?_; (with_reducible refine (icmp_Parse.calls t357 t359 t360 t361 t362 t363 _ A20.out).mono ?_); rintro e w62 ⟨rfl, hb⟩; (try clear A20); refine ⟨_, rfl, ?_⟩; have n0_ := Aside0.mk (blk_below (g := gb356) (o := .cells #[.int .i64 (wrap64 (a0)), .int .i64 (wrap64 (a1)), .int .u32 a2, .string (a3.extract 0 ((ji8) : Int).toNat)] 45 (0, 0)) (by (with_reducible repeat (first | refine blk_drewN ?_ _ | refine blk_drew ?_ | refine blk_alloc ?_ _)); exact BK356.out) hb); have n1_ := Aside0.mk (below_step (by repeat (first | (with_reducible first | exact HB.out | apply below_alloc | apply pw_below_drewN | apply below_drew1 | refine below_set ?_ GE356.out) | exact HB.out)) hb); clear BK356; clear HB; have BK356 := n0_; have HB := n1_; clear n0_ n1_; (try clear hb); (try clear hb2); (try clear hk); (try clear hi)) | ((with_reducible refine gate_dst (N := 15) rfl ?_); (try (refine gate_guard (by rfl) ?_; dsimp only)); refine box_event ?hg (N := 15) ?hd (cs := #[.int .i64 0, .int .i64 0, .int .u32 0, .string (⟨#[]⟩ : ByteArray)]) (t := 45) ?hr ?_; (case hd => rfl); (case hg => rfl); (case hr => first | (go_simp; done) | (go_simp; rfl)); intro gb364 hg w63 hbox hb; have n0_ := Aside0.mk (blk_below (g := gb356) (o := .cells #[.int .i64 (wrap64 (a0)), .int .i64 (wrap64 (a1)), .int .u32 a2, .string (a3.extract 0 ((ji8) : Int).toNat)] 45 (0, 0)) (by (with_reducible repeat (first | refine blk_drewN ?_ _ | refine blk_drew ?_ | refine blk_alloc ?_ _)); exact BK356.out) hb); have n1_ := Aside0.mk (below_step (by repeat (first | (with_reducible first | exact HB.out | apply below_alloc | apply pw_below_drewN | apply below_drew1 | refine below_set ?_ GE356.out) | exact HB.out)) hb); have n2_ := Aside0.mk (hbox); have n3_ := Aside0.mk ((by rw [hg]; exact (below_size (by repeat (first | (with_reducible first | exact HB.out | apply below_alloc | apply pw_below_drewN | apply below_drew1 | refine below_set ?_ GE356.out) | exact HB.out))) : w.heap.size ≤ gb364)); have n4_ := Aside0.mk ((by rw [hg]; exact (below_size (by repeat (first | (with_reducible first | exact HB.out | apply below_alloc | apply pw_below_drewN | apply below_drew1 | refine below_set ?_ GE356.out) | exact HB.out))) : w.heap.size ≤ gb364)); have n5_ := Aside0.mk ((by rw [hg]; exact Nat.ne_of_lt (blk_lt (g := gb356) (o := .cells #[.int .i64 (wrap64 (a0)), .int .i64 (wrap64 (a1)), .int .u32 a2, .string (a3.extract 0 ((ji8) : Int).toNat)] 45 (0, 0)) (by (with_reducible repeat (first | refine blk_drewN ?_ _ | refine blk_drew ?_ | refine blk_alloc ?_ _)); exact BK356.out)) : gb356 ≠ gb364)); have n6_ := Aside0.mk ((by rw [hg]; exact Nat.ne_of_gt (blk_lt (g := gb356) (o := .cells #[.int .i64 (wrap64 (a0)), .int .i64 (wrap64 (a1)), .int .u32 a2, .string (a3.extract 0 ((ji8) : Int).toNat)] 45 (0, 0)) (by (with_reducible repeat (first | refine blk_drewN ?_ _ | refine blk_drew ?_ | refine blk_alloc ?_ _)); exact BK356.out)) : gb364 ≠ gb356)); clear BK356; clear HB; have BK356 := n0_; have HB := n1_; have BK364 := n2_; have GW364 := n3_; have GE364 := n4_; have NB356_364 := n5_; have NB364_356 := n6_; clear n0_ n1_ n2_ n3_ n4_ n5_ n6_; clear hb hbox hg; have hnb64 := NB364_356.out; have hnc64 := NB356_364.out; have hcz65_0 : w63.cell? ⟨gb364, 0, none⟩ = some (.int .i64 0) := (blk_cell BK364.out 0).trans rfl; have hcz65_1 : w63.cell? ⟨gb364, 1, none⟩ = some (.int .i64 0) := (blk_cell BK364.out 1).trans rfl; have hcz65_2 : w63.cell? ⟨gb364, 2, none⟩ = some (.int .u32 0) := (blk_cell BK364.out 2).trans rfl; have hcz65_3 : w63.cell? ⟨gb364, 3, none⟩ = some (.string (⟨#[]⟩ : ByteArray)) := (blk_cell BK364.out 3).trans rfl; have hfz65_0 := blk_frozen BK364.out 0; have hfz65_1 := blk_frozen BK364.out 1; have hfz65_2 := blk_frozen BK364.out 2; have hfz65_3 := blk_frozen BK364.out 3) | ((with_reducible refine gate_dst (N := 63) rfl ?_); (try (refine gate_guard (by rfl) ?_; dsimp only)); refine Kb.Q_conv (Kd.int .u8) 5 rfl (N := 63) rfl 9 38 _ rfl t357 rfl Try.underlying9 Try.underlying38 Try.underlying5 (ok := fun _ => True) trivial (of_decide_eq_true (by first | (with_reducible assumption) | assumption)) ?_; intro v366 w66 ho67 hb hg_ hnew_; clear hg_ hnew_; (first | rw [← Ny365.out] at ho67 | (simp only [Int.reduceToNat] at ho67; rw [← Ny365.out] at ho67)); have n0_ := Aside0.mk (Kb.Q_lower ho67 (below_size (by repeat (first | (with_reducible first | exact HB.out | apply below_alloc | apply pw_below_drewN | apply below_drew1 | refine below_set ?_ GE356.out | refine below_set ?_ GE364.out) | exact HB.out)))); have n1_ := Aside0.mk (blk_below (g := gb356) (o := .cells #[.int .i64 (wrap64 (a0)), .int .i64 (wrap64 (a1)), .int .u32 a2, .string (a3.extract 0 ((ji8) : Int).toNat)] 45 (0, 0)) (by (with_reducible repeat (first | refine blk_drewN ?_ _ | refine blk_drew ?_ | refine blk_alloc ?_ _)); refine blk_far ?_ NB356_364.out _; (with_reducible repeat (first | refine blk_drewN ?_ _ | refine blk_drew ?_ | refine blk_alloc ?_ _)); refine blk_far ?_ NB356_364.out _; (with_reducible repeat (first | refine blk_drewN ?_ _ | refine blk_drew ?_ | refine blk_alloc ?_ _)); refine blk_far ?_ NB356_364.out _; (with_reducible repeat (first | refine blk_drewN ?_ _ | refine blk_drew ?_ | refine blk_alloc ?_ _)); refine blk_far ?_ NB356_364.out _; (with_reducible repeat (first | refine blk_drewN ?_ _ | refine blk_drew ?_ | refine blk_alloc ?_ _)); exact BK356.out) hb); have n2_ := Aside0.mk (blk_below (g := gb364) (o := .cells #[.int .i64 t359, .int .i64 t360, .int .u32 t361, .string t362] 45 (0, 0)) (by (with_reducible repeat (first | refine blk_drewN ?_ _ | refine blk_drew ?_ | refine blk_alloc ?_ _)); refine blk_put (cs := #[.int .i64 t359, .int .i64 t360, .int .u32 t361, .string (⟨#[]⟩ : ByteArray)]) ?_ 3 _ rfl; (with_reducible repeat (first | refine blk_drewN ?_ _ | refine blk_drew ?_ | refine blk_alloc ?_ _)); refine blk_put (cs := #[.int .i64 t359, .int .i64 t360, .int .u32 0, .string (⟨#[]⟩ : ByteArray)]) ?_ 2 _ rfl; (with_reducible repeat (first | refine blk_drewN ?_ _ | refine blk_drew ?_ | refine blk_alloc ?_ _)); refine blk_put (cs := #[.int .i64 t359, .int .i64 0, .int .u32 0, .string (⟨#[]⟩ : ByteArray)]) ?_ 1 _ rfl; (with_reducible repeat (first | refine blk_drewN ?_ _ | refine blk_drew ?_ | refine blk_alloc ?_ _)); refine blk_put (cs := #[.int .i64 0, .int .i64 0, .int .u32 0, .string (⟨#[]⟩ : ByteArray)]) ?_ 0 _ rfl; (with_reducible repeat (first | refine blk_drewN ?_ _ | refine blk_drew ?_ | refine blk_alloc ?_ _)); exact BK364.out) hb); have n3_ := Aside0.mk (below_step (by repeat (first | (with_reducible first | exact HB.out | apply below_alloc | apply pw_below_drewN | apply below_drew1 | refine below_set ?_ GE356.out | refine below_set ?_ GE364.out) | exact HB.out)) hb); clear BK356; clear BK364; clear HB; have HO367 := n0_; have BK356 := n1_; have BK364 := n2_; have HB := n3_; clear n0_ n1_ n2_ n3_; clear hb ho67))
                                          have n0_ := Aside0.mk (Kb.Q_drew HO367.out)
                                          have n1_ := Aside0.mk (blk_drew BK356.out)
                                          have n2_ := Aside0.mk (blk_drew BK364.out)
                                          have n3_ := Aside0.mk (below_drew1 HB.out)
                                          clear HO367
                                          clear BK356
                                          clear BK364
                                          clear HB
                                          have HO367 := n0_
                                          have BK356 := n1_
                                          have BK364 := n2_
                                          have HB := n3_
                                          clear n0_ n1_ n2_ n3_
                                          obtain ⟨Ao69, co69, eo69, _⟩ := Kb.Q_slice HO367.out
                                          (first | subst eo69 | (injection eo69 with f1_ f2_ f3_; have f4_ := f1_.symm; have f5_ := f3_.symm; clear f1_ f2_ f3_; subst f4_; subst f5_))
                                          have p368 : 0 ≤ ((ji24) : Int) := of_decide_eq_true (by first | (with_reducible assumption) | assumption)
                                          have q368 : (ji24) < (y365.length : Int) := of_decide_eq_true (by first | (with_reducible assumption) | assumption)
                                          obtain ⟨ad368, e368, hx368_0⟩ := Kd.at_int (Kb.Q_reads' HO367.out).2.2 (ji24) p368 q368
                                          cases e368
                                          replace p368 := eq_true p368
                                          replace q368 := eq_true q368
                                          have p30 : 0 ≤ ((ji24) : Int) := of_decide_eq_true (by first | (with_reducible assumption) | assumption)
                                          have q30 : ((ji24) : Int) < ((y365.length : Int) : Int) := of_decide_eq_true (by first | (with_reducible assumption) | assumption)
                                          obtain ⟨go30, co30, eo30, gb30, gl30, cl30, HG30⟩ := Kb.Q_form HO367.out (by omega)
                                          (first | cases eo30 | (injection eo30 with ea_ en_ ec_; (first | subst ea_ | (injection ea_ with ea_; subst ea_)); subst ec_; clear en_))
                                          have GB30 := Aside0.mk gb30
                                          have GG30 := Aside0.mk HG30
                                          clear gb30 gl30 HG30
                                          (first | simp only [add_at, Nat.zero_add] at hx368_0 | skip)
                                          obtain ⟨hx30_0, hf30_0⟩ := Kb.Q_cell 0 HO367.out ((ji24) : Int) p30 q30
                                          replace p30 := eq_true p30
                                          replace q30 := eq_true q30
                                          have HP70 := (Kb.Q_putg HO367.out ((ji24) : Int) (of_decide_eq_true (by first | (with_reducible assumption) | assumption)) (by have h_ : ((ji24) : Int) < ((y365.length : Int) : Int) := of_decide_eq_true (by first | (with_reducible assumption) | assumption); first | exact h_ | (have e_ := (Kb.Q_reads' HO367.out).1; omega) | simpa using h_) (Go.bits .xor .u8 (rd y365 (ji24)) (ji29))).1
                                          rw [← Ny369.out] at HP70
                                          have HQ70 := Aside0.mk HP70
                                          clear HP70
                                          refine start_ (n := 20) (S := fun w' => w'.cell? ⟨go30, ((ji24)).toNat, none⟩ = some (.int .u8 (rd y365 (ji24)))) (ds := [19]) #[false, false, false, false, false, false, false, false, false, false, false, false, false, false, false, false, false, false, false, false] (by kernel_rfl) rfl rfl (hx368_0) (fun hHeld => ?_); refine with_tabW weighbridgelaw07_IcmpBack.tab12 weighbridgelaw07_IcmpBack.bits12 (fun HT_ HW_ => ?_)
                                          generalize w66.drew = w68 at HO367 BK356 BK364 HB GG30 HQ70 hf30_0 hx30_0 hx368_0 hHeld ⊢
                                          refine pure_ (i := 0) (N := some 64) (v := ?_) (a' := ?_) #[true, false, false, false, false, false, false, false, false, false, false, false, false, false, false, false, false, false, false, false] rfl rfl (any_of HT_.out (by kernel_rfl)) (fun _ _ _ h => h) (Or.inl ⟨by rfl, ?_⟩) ?_ ?_
                                          rotate_left
                                          · intro w'
                                            go_simp
                                            with_reducible rfl
                                          rotate_left
                                          · simp only [Act.put, List.setIfInBounds_toArray, List.set_cons_zero, List.set_cons_succ, i64_w, i32_w]
                                            rfl
                                          refine pure_ (i := 1) (N := some 65) (v := ?_) (a' := ?_) #[true, true, false, false, false, false, false, false, false, false, false, false, false, false, false, false, false, false, false, false] rfl rfl (any_of HT_.out (by kernel_rfl)) (fun _ _ _ h => h) (Or.inl ⟨by rfl, ?_⟩) ?_ ?_
                                          rotate_left
                                          · intro w'
                                            go_simp
                                            with_reducible rfl
                                          rotate_left
                                          · simp only [Act.put, List.setIfInBounds_toArray, List.set_cons_zero, List.set_cons_succ, i64_w, i32_w]
                                            rfl
                                          refine pure_ (i := 2) (N := some 66) (v := ?_) (a' := ?_) #[true, true, true, false, false, false, false, false, false, false, false, false, false, false, false, false, false, false, false, false] rfl rfl (any_of HT_.out (by kernel_rfl)) (fun _ _ _ h => h) (Or.inl ⟨by rfl, ?_⟩) ?_ ?_
                                          rotate_left
                                          · intro w'
                                            go_simp
                                            with_reducible rfl
                                          rotate_left
                                          · simp only [Act.put, List.setIfInBounds_toArray, List.set_cons_zero, List.set_cons_succ, i64_w, i32_w]
                                            rfl
                                          refine pure_ (i := 3) (N := some 67) (v := ?_) (a' := ?_) #[true, true, true, true, false, false, false, false, false, false, false, false, false, false, false, false, false, false, false, false] rfl rfl (any_of HT_.out (by kernel_rfl)) (fun _ _ _ h => h) (Or.inl ⟨by rfl, ?_⟩) ?_ ?_
                                          rotate_left
                                          · intro w'
                                            go_simp
                                            with_reducible rfl
                                          rotate_left
                                          · simp only [Act.put, List.setIfInBounds_toArray, List.set_cons_zero, List.set_cons_succ, i64_w, i32_w]
                                            rfl
                                          refine pure_ (i := 4) (N := some 68) (v := ?_) (a' := ?_) #[true, true, true, true, true, false, false, false, false, false, false, false, false, false, false, false, false, false, false, false] rfl rfl (any_of HT_.out (by kernel_rfl)) (fun _ _ _ h => h) (Or.inl ⟨by rfl, ?_⟩) ?_ ?_
                                          rotate_left
                                          · intro w'
                                            go_simp
                                            with_reducible rfl
                                          rotate_left
                                          · simp only [Act.put, List.setIfInBounds_toArray, List.set_cons_zero, List.set_cons_succ, i64_w, i32_w]
                                            rfl
                                          refine pure_ (i := 5) (N := some 69) (v := ?_) (a' := ?_) #[true, true, true, true, true, true, false, false, false, false, false, false, false, false, false, false, false, false, false, false] rfl rfl (any_of HT_.out (by kernel_rfl)) (fun _ _ _ h => h) (Or.inl ⟨by rfl, ?_⟩) ?_ ?_
                                          rotate_left
                                          · intro w'
                                            go_simp
                                            with_reducible rfl
                                          rotate_left
                                          · simp only [Act.put, List.setIfInBounds_toArray, List.set_cons_zero, List.set_cons_succ, i64_w, i32_w]
                                            rfl
                                          refine pure_ (i := 6) (N := some 70) (v := ?_) (a' := ?_) #[true, true, true, true, true, true, true, false, false, false, false, false, false, false, false, false, false, false, false, false] rfl rfl (any_of HT_.out (by kernel_rfl)) (fun _ _ _ h => h) (Or.inl ⟨by rfl, ?_⟩) ?_ ?_
                                          rotate_left
                                          · intro w'
                                            go_simp
                                            with_reducible rfl
                                          rotate_left
                                          · simp only [Act.put, List.setIfInBounds_toArray, List.set_cons_zero, List.set_cons_succ, i64_w, i32_w]
                                            rfl
                                          refine pure_ (i := 7) (N := some 71) (v := ?_) (a' := ?_) #[true, true, true, true, true, true, true, true, false, false, false, false, false, false, false, false, false, false, false, false] rfl rfl (any_of HT_.out (by kernel_rfl)) (fun _ _ _ h => h) (Or.inl ⟨by rfl, ?_⟩) ?_ ?_
                                          rotate_left
                                          · intro w'
                                            go_simp
                                            with_reducible rfl
                                          rotate_left
                                          · simp only [Act.put, List.setIfInBounds_toArray, List.set_cons_zero, List.set_cons_succ, i64_w, i32_w]
                                            rfl
                                          refine pure_ (i := 8) (N := some 72) (v := ?_) (a' := ?_) #[true, true, true, true, true, true, true, true, true, false, false, false, false, false, false, false, false, false, false, false] rfl rfl (any_of HT_.out (by kernel_rfl)) (fun _ _ _ h => h) (Or.inl ⟨by rfl, ?_⟩) ?_ ?_
                                          rotate_left
                                          · intro w'
                                            go_simp
                                            with_reducible rfl
                                          rotate_left
                                          · simp only [Act.put, List.setIfInBounds_toArray, List.set_cons_zero, List.set_cons_succ, i64_w, i32_w]
                                            rfl
                                          refine pure_ (i := 9) (N := some 73) (v := ?_) (a' := ?_) #[true, true, true, true, true, true, true, true, true, true, false, false, false, false, false, false, false, false, false, false] rfl rfl (any_of HT_.out (by kernel_rfl)) (fun _ _ _ h => h) (Or.inl ⟨by rfl, ?_⟩) ?_ ?_
                                          rotate_left
                                          · intro w'
                                            go_simp
                                            with_reducible rfl
                                          rotate_left
                                          · simp only [Act.put, List.setIfInBounds_toArray, List.set_cons_zero, List.set_cons_succ, i64_w, i32_w]
                                            rfl
                                          refine pure_ (i := 10) (N := some 74) (v := ?_) (a' := ?_) #[true, true, true, true, true, true, true, true, true, true, true, false, false, false, false, false, false, false, false, false] rfl rfl (any_of HT_.out (by kernel_rfl)) (fun _ _ _ h => h) (Or.inl ⟨by rfl, ?_⟩) ?_ ?_
                                          rotate_left
                                          · intro w'
                                            go_simp
                                            with_reducible rfl
                                          rotate_left
                                          · simp only [Act.put, List.setIfInBounds_toArray, List.set_cons_zero, List.set_cons_succ, i64_w, i32_w]
                                            rfl
                                          refine pure_ (i := 11) (N := some 75) (v := ?_) (a' := ?_) #[true, true, true, true, true, true, true, true, true, true, true, true, false, false, false, false, false, false, false, false] rfl rfl (any_of HT_.out (by kernel_rfl)) (fun _ _ _ h => h) (Or.inl ⟨by rfl, ?_⟩) ?_ ?_
                                          rotate_left
                                          · intro w'
                                            go_simp
                                            with_reducible rfl
                                          rotate_left
                                          · simp only [Act.put, List.setIfInBounds_toArray, List.set_cons_zero, List.set_cons_succ, i64_w, i32_w]
                                            rfl
                                          refine pure_ (i := 12) (N := some 76) (v := ?_) (a' := ?_) #[true, true, true, true, true, true, true, true, true, true, true, true, true, false, false, false, false, false, false, false] rfl rfl (any_of HT_.out (by kernel_rfl)) (fun _ _ _ h => h) (Or.inl ⟨by rfl, ?_⟩) ?_ ?_
                                          rotate_left
                                          · intro w'
                                            go_simp
                                            with_reducible rfl
                                          rotate_left
                                          · simp only [Act.put, List.setIfInBounds_toArray, List.set_cons_zero, List.set_cons_succ, i64_w, i32_w]
                                            rfl
                                          refine pure_ (i := 14) (N := some 78) (v := ?_) (a' := ?_) #[true, true, true, true, true, true, true, true, true, true, true, true, true, false, true, false, false, false, false, false] rfl rfl (any_of HT_.out (by kernel_rfl)) (fun _ _ _ h => h) (Or.inl ⟨by rfl, ?_⟩) ?_ ?_
                                          rotate_left
                                          · intro w'
                                            go_simp
                                            with_reducible rfl
                                          rotate_left
                                          · simp only [Act.put, List.setIfInBounds_toArray, List.set_cons_zero, List.set_cons_succ, i64_w, i32_w]
                                            rfl
                                          refine pure_ (i := 15) (N := some 79) (v := ?_) (a' := ?_) #[true, true, true, true, true, true, true, true, true, true, true, true, true, false, true, true, false, false, false, false] rfl rfl (any_of HT_.out (by kernel_rfl)) (fun _ _ _ h => h) (Or.inl ⟨by rfl, ?_⟩) ?_ ?_
                                          rotate_left
                                          · intro w'
                                            go_simp
                                            with_reducible rfl
                                          rotate_left
                                          · simp only [Act.put, List.setIfInBounds_toArray, List.set_cons_zero, List.set_cons_succ, i64_w, i32_w]
                                            rfl
                                          refine pure_ (i := 16) (N := some 80) (v := ?_) (a' := ?_) #[true, true, true, true, true, true, true, true, true, true, true, true, true, false, true, true, true, false, false, false] rfl rfl (any_of HT_.out (by kernel_rfl)) (fun _ _ _ h => h) (Or.inl ⟨by rfl, ?_⟩) ?_ ?_
                                          rotate_left
                                          · intro w'
                                            go_simp
                                            with_reducible rfl
                                          rotate_left
                                          · simp only [Act.put, List.setIfInBounds_toArray, List.set_cons_zero, List.set_cons_succ, i64_w, i32_w]
                                            rfl
                                          refine take_ (i := 13) (N := some 77) (v := ?_) (a' := ?_) #[true, true, true, true, true, true, true, true, true, true, true, true, true, true, true, true, true, false, false, false] rfl rfl (take_ofW HT_.out HW_.out (by kernel_rfl)) (fun _ _ _ h => h) (Or.inl ⟨by rfl, ?_⟩) hHeld ?_ ?_
                                          rotate_left
                                          · intro w' s0
                                            go_simp
                                            with_reducible rfl
                                          rotate_left
                                          · simp only [Act.put, List.setIfInBounds_toArray, List.set_cons_zero, List.set_cons_succ, i64_w, i32_w]
                                            rfl
                                          refine pure_ (i := 17) (N := some 81) (v := ?_) (a' := ?_) #[true, true, true, true, true, true, true, true, true, true, true, true, true, true, true, true, true, true, false, false] rfl rfl (any_of HT_.out (by kernel_rfl)) (fun _ _ _ h => h) (Or.inl ⟨by rfl, ?_⟩) ?_ ?_
                                          rotate_left
                                          · intro w'
                                            go_simp
                                            with_reducible rfl
                                          rotate_left
                                          · simp only [Act.put, List.setIfInBounds_toArray, List.set_cons_zero, List.set_cons_succ, i64_w, i32_w]
                                            rfl
                                          refine pure_ (i := 18) (N := some 82) (v := ?_) (a' := ?_) #[true, true, true, true, true, true, true, true, true, true, true, true, true, true, true, true, true, true, true, false] rfl rfl (any_of HT_.out (by kernel_rfl)) (fun _ _ _ h => h) (Or.inl ⟨by rfl, ?_⟩) ?_ ?_
                                          rotate_left
                                          · intro w'
                                            go_simp
                                            with_reducible rfl
                                          rotate_left
                                          · simp only [Act.put, List.setIfInBounds_toArray, List.set_cons_zero, List.set_cons_succ, i64_w, i32_w]
                                            rfl
                                          refine last_ (i := 19) (N := none) #[true, true, true, true, true, true, true, true, true, true, true, true, true, true, true, true, true, true, true, true] rfl rfl (one_of HT_.out (by kernel_rfl)) (by decide) (fun K hK => ?_)
                                          refine skip_ (w1 := ?_) (by rfl) rfl ?_ ?_
                                          rotate_left
                                          · go_simp
                                            rfl
                                          refine hK.out _ _ ?_
                                          clear hK K
                                          refine done_ (done_of HT_.out (by kernel_rfl)) ?_
                                          have n0_ : Aside0 (Kb.Q (Kd.int .u8) 5 (w68.setCell ⟨go30, ((ji24) : Int).toNat, none⟩ (.int .u8 (Go.bits .xor .u8 (rd y365 (ji24)) (ji29)))) w.heap.size (fun _ => True) (.slice (some ⟨go30, 0, none⟩) y365.length co69) y369) := ⟨by (with_reducible repeat (first | apply Kb.Q_alloc | apply Kb.Q_drewN | apply Kb.Q_drew)); exact HQ70.out⟩
                                          have n1_ : Aside0 ((w68.setCell ⟨go30, ((ji24) : Int).toNat, none⟩ (.int .u8 (Go.bits .xor .u8 (rd y365 (ji24)) (ji29)))).heap[gb356]? = some (.cells #[.int .i64 (wrap64 (a0)), .int .i64 (wrap64 (a1)), .int .u32 a2, .string (a3.extract 0 ((ji8) : Int).toNat)] 45 (0, 0))) := ⟨by (with_reducible repeat (first | refine blk_drewN ?_ _ | refine blk_drew ?_ | refine blk_alloc ?_ _)); refine blk_far ?_ (by have h_ := Kb.Q_ne HO367.out BK356.out (by decide); intro e_; exact h_ (by rw [e_]; rfl)) _; (with_reducible repeat (first | refine blk_drewN ?_ _ | refine blk_drew ?_ | refine blk_alloc ?_ _)); exact BK356.out⟩
                                          have n2_ : Aside0 ((w68.setCell ⟨go30, ((ji24) : Int).toNat, none⟩ (.int .u8 (Go.bits .xor .u8 (rd y365 (ji24)) (ji29)))).heap[gb364]? = some (.cells #[.int .i64 t359, .int .i64 t360, .int .u32 t361, .string t362] 45 (0, 0))) := ⟨by (with_reducible repeat (first | refine blk_drewN ?_ _ | refine blk_drew ?_ | refine blk_alloc ?_ _)); refine blk_far ?_ (by have h_ := Kb.Q_ne HO367.out BK364.out (by decide); intro e_; exact h_ (by rw [e_]; rfl)) _; (with_reducible repeat (first | refine blk_drewN ?_ _ | refine blk_drew ?_ | refine blk_alloc ?_ _)); exact BK364.out⟩
                                          have n3_ : Aside0 (Below w.heap.size w (w68.setCell ⟨go30, ((ji24) : Int).toNat, none⟩ (.int .u8 (Go.bits .xor .u8 (rd y365 (ji24)) (ji29))))) := ⟨by repeat (first | (with_reducible first | exact HB.out | apply below_alloc | apply pw_below_drewN | apply below_drew1 | refine below_set ?_ GB30.out | refine below_set ?_ GE356.out | refine below_set ?_ GE364.out) | exact HB.out)⟩
                                          (try clear HO367)
                                          (try clear BK356)
                                          (try clear BK364)
                                          (try clear HB)
                                          generalize (w68.setCell ⟨go30, ((ji24) : Int).toNat, none⟩ (.int .u8 (Go.bits .xor .u8 (rd y365 (ji24)) (ji29)))) = w71 at n0_ n1_ n2_ n3_ ⊢
                                          have HO367 := n0_
                                          have BK356 := n1_
                                          have BK364 := n2_
                                          have HB := n3_
                                          clear n0_ n1_ n2_ n3_
                                          have hcv72 := Kb.Q_string (P := Try.prog) Try.underlying38 Try.underlying5 Try.underlying9 (HO367.out)
                                          try go_wp2_with (first | ((with_reducible refine gate_callee (f := 29) rfl ?_); refine goesL_ (some 86) rfl rfl Try.func29 (by kernel_rfl) rfl #[.string (strOfNums y369)] rfl (by (try simp only [List.map_toArray, List.map_cons, List.map_nil]); first | done | rfl | (simp only [List.length_drop, List.length_take]; rfl)) ?_; (with_reducible refine (icmp_Parse.calls (strOfNums y369) t370 t371 t372 t373 t374 _ A31.out).mono ?_); rintro e w73 ⟨rfl, hb⟩; (try clear A31); refine ⟨_, rfl, ?_⟩; have n0_ := Aside0.mk (Kb.Q_below (by (with_reducible repeat (first | apply Kb.Q_alloc | apply Kb.Q_drewN | apply Kb.Q_drew)); exact HO367.out) hb); have n1_ := Aside0.mk (blk_below (g := gb356) (o := .cells #[.int .i64 (wrap64 (a0)), .int .i64 (wrap64 (a1)), .int .u32 a2, .string (a3.extract 0 ((ji8) : Int).toNat)] 45 (0, 0)) (by (with_reducible repeat (first | refine blk_drewN ?_ _ | refine blk_drew ?_ | refine blk_alloc ?_ _)); exact BK356.out) hb); have n2_ := Aside0.mk (blk_below (g := gb364) (o := .cells #[.int .i64 t359, .int .i64 t360, .int .u32 t361, .string t362] 45 (0, 0)) (by (with_reducible repeat (first | refine blk_drewN ?_ _ | refine blk_drew ?_ | refine blk_alloc ?_ _)); exact BK364.out) hb); have n3_ := Aside0.mk (below_step (by repeat (first | (with_reducible first | exact HB.out | apply below_alloc | apply pw_below_drewN | apply below_drew1 | refine below_set ?_ GE356.out | refine below_set ?_ GE364.out) | exact HB.out)) hb); clear HO367; clear BK356; clear BK364; clear HB; have HO367 := n0_; have BK356 := n1_; have BK364 := n2_; have HB := n3_; clear n0_ n1_ n2_ n3_; (try clear hb); (try clear hb2); (try clear hk); (try clear hi)) | ((with_reducible refine gate_dst (N := 18) rfl ?_); (try (refine gate_guard (by rfl) ?_; dsimp only)); refine box_event ?hg (N := 18) ?hd (cs := #[.int .i64 0, .int .i64 0, .int .u32 0, .string (⟨#[]⟩ : ByteArray)]) (t := 45) ?hr ?_; (case hd => rfl); (case hg => rfl); (case hr => first | (go_simp; done) | (go_simp; rfl)); intro gb375 hg w74 hbox hb; have n0_ := Aside0.mk (Kb.Q_below (by (with_reducible repeat (first | apply Kb.Q_alloc | apply Kb.Q_drewN | apply Kb.Q_drew)); exact HO367.out) hb); have n1_ := Aside0.mk (blk_below (g := gb356) (o := .cells #[.int .i64 (wrap64 (a0)), .int .i64 (wrap64 (a1)), .int .u32 a2, .string (a3.extract 0 ((ji8) : Int).toNat)] 45 (0, 0)) (by (with_reducible repeat (first | refine blk_drewN ?_ _ | refine blk_drew ?_ | refine blk_alloc ?_ _)); exact BK356.out) hb); have n2_ := Aside0.mk (blk_below (g := gb364) (o := .cells #[.int .i64 t359, .int .i64 t360, .int .u32 t361, .string t362] 45 (0, 0)) (by (with_reducible repeat (first | refine blk_drewN ?_ _ | refine blk_drew ?_ | refine blk_alloc ?_ _)); exact BK364.out) hb); have n3_ := Aside0.mk (below_step (by repeat (first | (with_reducible first | exact HB.out | apply below_alloc | apply pw_below_drewN | apply below_drew1 | refine below_set ?_ GE356.out | refine below_set ?_ GE364.out) | exact HB.out)) hb); have n4_ := Aside0.mk (hbox); have n5_ := Aside0.mk ((by rw [hg]; exact (below_size (by repeat (first | (with_reducible first | exact HB.out | apply below_alloc | apply pw_below_drewN | apply below_drew1 | refine below_set ?_ GE356.out | refine below_set ?_ GE364.out) | exact HB.out))) : w.heap.size ≤ gb375)); have n6_ := Aside0.mk ((by rw [hg]; exact (below_size (by repeat (first | (with_reducible first | exact HB.out | apply below_alloc | apply pw_below_drewN | apply below_drew1 | refine below_set ?_ GE356.out | refine below_set ?_ GE364.out) | exact HB.out))) : w.heap.size ≤ gb375)); have n7_ := Aside0.mk ((by rw [hg]; exact Nat.ne_of_lt (blk_lt (g := gb356) (o := .cells #[.int .i64 (wrap64 (a0)), .int .i64 (wrap64 (a1)), .int .u32 a2, .string (a3.extract 0 ((ji8) : Int).toNat)] 45 (0, 0)) (by (with_reducible repeat (first | refine blk_drewN ?_ _ | refine blk_drew ?_ | refine blk_alloc ?_ _)); exact BK356.out)) : gb356 ≠ gb375)); have n8_ := Aside0.mk ((by rw [hg]; exact Nat.ne_of_gt (blk_lt (g := gb356) (o := .cells #[.int .i64 (wrap64 (a0)), .int .i64 (wrap64 (a1)), .int .u32 a2, .string (a3.extract 0 ((ji8) : Int).toNat)] 45 (0, 0)) (by (with_reducible repeat (first | refine blk_drewN ?_ _ | refine blk_drew ?_ | refine blk_alloc ?_ _)); exact BK356.out)) : gb375 ≠ gb356)); have n9_ := Aside0.mk ((by rw [hg]; exact Nat.ne_of_lt (blk_lt (g := gb364) (o := .cells #[.int .i64 t359, .int .i64 t360, .int .u32 t361, .string t362] 45 (0, 0)) (by (with_reducible repeat (first | refine blk_drewN ?_ _ | refine blk_drew ?_ | refine blk_alloc ?_ _)); exact BK364.out)) : gb364 ≠ gb375)); have n10_ := Aside0.mk ((by rw [hg]; exact Nat.ne_of_gt (blk_lt (g := gb364) (o := .cells #[.int .i64 t359, .int .i64 t360, .int .u32 t361, .string t362] 45 (0, 0)) (by (with_reducible repeat (first | refine blk_drewN ?_ _ | refine blk_drew ?_ | refine blk_alloc ?_ _)); exact BK364.out)) : gb375 ≠ gb364)); clear HO367; clear BK356; clear BK364; clear HB; have HO367 := n0_; have BK356 := n1_; have BK364 := n2_; have HB := n3_; have BK375 := n4_; have GW375 := n5_; have GE375 := n6_; have NB356_375 := n7_; have NB375_356 := n8_; have NB364_375 := n9_; have NB375_364 := n10_; clear n0_ n1_ n2_ n3_ n4_ n5_ n6_ n7_ n8_ n9_ n10_; clear hb hbox hg; have hnb75 := NB375_356.out; have hnc75 := NB356_375.out; have hnb76 := NB375_364.out; have hnc76 := NB364_375.out; have hcz77_0 : w74.cell? ⟨gb375, 0, none⟩ = some (.int .i64 0) := (blk_cell BK375.out 0).trans rfl; have hcz77_1 : w74.cell? ⟨gb375, 1, none⟩ = some (.int .i64 0) := (blk_cell BK375.out 1).trans rfl; have hcz77_2 : w74.cell? ⟨gb375, 2, none⟩ = some (.int .u32 0) := (blk_cell BK375.out 2).trans rfl; have hcz77_3 : w74.cell? ⟨gb375, 3, none⟩ = some (.string (⟨#[]⟩ : ByteArray)) := (blk_cell BK375.out 3).trans rfl; have hfz77_0 := blk_frozen BK375.out 0; have hfz77_1 := blk_frozen BK375.out 1; have hfz77_2 := blk_frozen BK375.out 2; have hfz77_3 := blk_frozen BK375.out 3; have hcz78_0 : w74.cell? ⟨gb356, 0, none⟩ = some (.int .i64 (wrap64 (a0))) := (blk_cell BK356.out 0).trans rfl; have hcz78_1 : w74.cell? ⟨gb356, 1, none⟩ = some (.int .i64 (wrap64 (a1))) := (blk_cell BK356.out 1).trans rfl; have hcz78_2 : w74.cell? ⟨gb356, 2, none⟩ = some (.int .u32 a2) := (blk_cell BK356.out 2).trans rfl; have hcz78_3 : w74.cell? ⟨gb356, 3, none⟩ = some (.string (a3.extract 0 ((ji8) : Int).toNat)) := (blk_cell BK356.out 3).trans rfl; have hfz78_0 := blk_frozen BK356.out 0; have hfz78_1 := blk_frozen BK356.out 1; have hfz78_2 := blk_frozen BK356.out 2; have hfz78_3 := blk_frozen BK356.out 3) | ((with_reducible refine gate_callee (f := 25) rfl ?_); refine goesL_ (some 91) rfl rfl Try.func25 (by kernel_rfl) rfl #[.agg #[.int .i64 (wrap64 (a0)), .int .i64 (wrap64 (a1)), .int .u32 a2, .string (a3.extract 0 ((ji8) : Int).toNat)]] rfl (by (try simp only [List.map_toArray, List.map_cons, List.map_nil]); first | done | (simp only [hji8]; rfl) | rfl | (simp only [List.length_drop, List.length_take]; rfl)) ?_; (with_reducible refine (icmp_MTU.calls (wrap64 (a0)) (wrap64 (a1)) a2 (a3.extract 0 ((ji8) : Int).toNat) t376 false _ A32.out).mono ?_); rintro e w79 ⟨rfl, hb⟩; (try clear A32); refine ⟨_, rfl, ?_⟩; have n0_ := Aside0.mk (Kb.Q_below (by (with_reducible repeat (first | apply Kb.Q_alloc | apply Kb.Q_drewN | apply Kb.Q_drew)); exact (Kb.Q_mono (Kb.Q_far (p := ⟨gb375, 3, none⟩) (Kb.Q_far (p := ⟨gb375, 2, none⟩) (Kb.Q_far (p := ⟨gb375, 1, none⟩) (Kb.Q_far (p := ⟨gb375, 0, none⟩) (Kb.Q_types HO367.out BK375.out (by decide)) (fun _ hk => hk.2) (.int .i64 t370)) (fun _ hk => hk.2) (.int .i64 t371)) (fun _ hk => hk.2) (.int .u32 t372)) (fun _ hk => hk.2) (.string t373)) (fun _ h_ => h_.1))) hb); have n1_ := Aside0.mk (blk_below (g := gb356) (o := .cells #[.int .i64 (wrap64 (a0)), .int .i64 (wrap64 (a1)), .int .u32 a2, .string (a3.extract 0 ((ji8) : Int).toNat)] 45 (0, 0)) (by (with_reducible repeat (first | refine blk_drewN ?_ _ | refine blk_drew ?_ | refine blk_alloc ?_ _)); refine blk_far ?_ NB356_375.out _; (with_reducible repeat (first | refine blk_drewN ?_ _ | refine blk_drew ?_ | refine blk_alloc ?_ _)); refine blk_far ?_ NB356_375.out _; (with_reducible repeat (first | refine blk_drewN ?_ _ | refine blk_drew ?_ | refine blk_alloc ?_ _)); refine blk_far ?_ NB356_375.out _; (with_reducible repeat (first | refine blk_drewN ?_ _ | refine blk_drew ?_ | refine blk_alloc ?_ _)); refine blk_far ?_ NB356_375.out _; (with_reducible repeat (first | refine blk_drewN ?_ _ | refine blk_drew ?_ | refine blk_alloc ?_ _)); exact BK356.out) hb); have n2_ := Aside0.mk (blk_below (g := gb364) (o := .cells #[.int .i64 t359, .int .i64 t360, .int .u32 t361, .string t362] 45 (0, 0)) (by (with_reducible repeat (first | refine blk_drewN ?_ _ | refine blk_drew ?_ | refine blk_alloc ?_ _)); refine blk_far ?_ NB364_375.out _; (with_reducible repeat (first | refine blk_drewN ?_ _ | refine blk_drew ?_ | refine blk_alloc ?_ _)); refine blk_far ?_ NB364_375.out _; (with_reducible repeat (first | refine blk_drewN ?_ _ | refine blk_drew ?_ | refine blk_alloc ?_ _)); refine blk_far ?_ NB364_375.out _; (with_reducible repeat (first | refine blk_drewN ?_ _ | refine blk_drew ?_ | refine blk_alloc ?_ _)); refine blk_far ?_ NB364_375.out _; (with_reducible repeat (first | refine blk_drewN ?_ _ | refine blk_drew ?_ | refine blk_alloc ?_ _)); exact BK364.out) hb); have n3_ := Aside0.mk (blk_below (g := gb375) (o := .cells #[.int .i64 t370, .int .i64 t371, .int .u32 t372, .string t373] 45 (0, 0)) (by (with_reducible repeat (first | refine blk_drewN ?_ _ | refine blk_drew ?_ | refine blk_alloc ?_ _)); refine blk_put (cs := #[.int .i64 t370, .int .i64 t371, .int .u32 t372, .string (⟨#[]⟩ : ByteArray)]) ?_ 3 _ rfl; (with_reducible repeat (first | refine blk_drewN ?_ _ | refine blk_drew ?_ | refine blk_alloc ?_ _)); refine blk_put (cs := #[.int .i64 t370, .int .i64 t371, .int .u32 0, .string (⟨#[]⟩ : ByteArray)]) ?_ 2 _ rfl; (with_reducible repeat (first | refine blk_drewN ?_ _ | refine blk_drew ?_ | refine blk_alloc ?_ _)); refine blk_put (cs := #[.int .i64 t370, .int .i64 0, .int .u32 0, .string (⟨#[]⟩ : ByteArray)]) ?_ 1 _ rfl; (with_reducible repeat (first | refine blk_drewN ?_ _ | refine blk_drew ?_ | refine blk_alloc ?_ _)); refine blk_put (cs := #[.int .i64 0, .int .i64 0, .int .u32 0, .string (⟨#[]⟩ : ByteArray)]) ?_ 0 _ rfl; (with_reducible repeat (first | refine blk_drewN ?_ _ | refine blk_drew ?_ | refine blk_alloc ?_ _)); exact BK375.out) hb); have n4_ := Aside0.mk (below_step (by repeat (first | (with_reducible first | exact HB.out | apply below_alloc | apply pw_below_drewN | apply below_drew1 | refine below_set ?_ GE356.out | refine below_set ?_ GE364.out | refine below_set ?_ GE375.out) | exact HB.out)) hb); clear HO367; clear BK356; clear BK364; clear BK375; clear HB; have HO367 := n0_; have BK356 := n1_; have BK364 := n2_; have BK375 := n3_; have HB := n4_; clear n0_ n1_ n2_ n3_ n4_; (try clear hb); (try clear hb2); (try clear hk); (try clear hi); have hcz80_0 : w79.cell? ⟨gb364, 0, none⟩ = some (.int .i64 t359) := (blk_cell BK364.out 0).trans rfl; have hcz80_1 : w79.cell? ⟨gb364, 1, none⟩ = some (.int .i64 t360) := (blk_cell BK364.out 1).trans rfl; have hcz80_2 : w79.cell? ⟨gb364, 2, none⟩ = some (.int .u32 t361) := (blk_cell BK364.out 2).trans rfl; have hcz80_3 : w79.cell? ⟨gb364, 3, none⟩ = some (.string t362) := (blk_cell BK364.out 3).trans rfl; have hfz80_0 := blk_frozen BK364.out 0; have hfz80_1 := blk_frozen BK364.out 1; have hfz80_2 := blk_frozen BK364.out 2; have hfz80_3 := blk_frozen BK364.out 3; have hcz81_0 : w79.cell? ⟨gb356, 0, none⟩ = some (.int .i64 (wrap64 (a0))) := (blk_cell BK356.out 0).trans rfl; have hcz81_1 : w79.cell? ⟨gb356, 1, none⟩ = some (.int .i64 (wrap64 (a1))) := (blk_cell BK356.out 1).trans rfl; have hcz81_2 : w79.cell? ⟨gb356, 2, none⟩ = some (.int .u32 a2) := (blk_cell BK356.out 2).trans rfl; have hcz81_3 : w79.cell? ⟨gb356, 3, none⟩ = some (.string (a3.extract 0 ((ji8) : Int).toNat)) := (blk_cell BK356.out 3).trans rfl; have hfz81_0 := blk_frozen BK356.out 0; have hfz81_1 := blk_frozen BK356.out 1; have hfz81_2 := blk_frozen BK356.out 2; have hfz81_3 := blk_frozen BK356.out 3; have hcz82_0 : w79.cell? ⟨gb375, 0, none⟩ = some (.int .i64 t370) := (blk_cell BK375.out 0).trans rfl; have hcz82_1 : w79.cell? ⟨gb375, 1, none⟩ = some (.int .i64 t371) := (blk_cell BK375.out 1).trans rfl; have hcz82_2 : w79.cell? ⟨gb375, 2, none⟩ = some (.int .u32 t372) := (blk_cell BK375.out 2).trans rfl; have hcz82_3 : w79.cell? ⟨gb375, 3, none⟩ = some (.string t373) := (blk_cell BK375.out 3).trans rfl; have hfz82_0 := blk_frozen BK375.out 0; have hfz82_1 := blk_frozen BK375.out 1; have hfz82_2 := blk_frozen BK375.out 2; have hfz82_3 := blk_frozen BK375.out 3))
                                          go_ret
                                          exact ⟨by first | rfl | (simp [errW_none, errW_some] <;> rfl) | (simp only [← hji8, ← hji24, ← hji27, ← hji29]; first | rfl | (simp [errW_none, errW_some] <;> rfl)) | (simp [*, errW_none, errW_some] <;> rfl), by repeat (first | (with_reducible first | exact HB.out | apply below_alloc | apply pw_below_drewN | apply below_drew1 | refine below_set ?_ GE356.out | refine below_set ?_ GE364.out | refine below_set ?_ GE375.out) | exact HB.out)⟩
                                      · rw [if_neg c39] at H
                                        have c39b0 : (t377 == (a1 == 4)) = false := by simpa using c39
                                        (try (have c39b1 : decide (t377 = (a1 == 4)) = false := by simpa using c39))
                                        (try (have c39b2 : (t377 == (a1 == 4)) = false := by simpa using c39))
                                        (try (have c39b3 : ¬ (t377 = (a1 == 4)) := by simpa using c39))
                                        clear c39
                                        exact absurd ((Option.some.inj H).trans hr_) (by decide)
                                    · rw [if_neg c38] at H
                                      have c38b0 : (a0 == 3) = false := beq_eq_false_iff_ne.mpr c38
                                      have c38b1 : (a0 != 3) = true := bne_iff_ne.mpr c38
                                      by_cases c83 : (t377 == false) = true
                                      · rw [if_pos c83] at H
                                        have c83b0 : (t377 == false) = true := c83
                                        (try (have c83b1 : decide (t377 = false) = true := by simpa using c83))
                                        (try (have c83b2 : (t377 == false) = true := by simpa using c83))
                                        clear c83
                                        by_cases c84 : t377 = true
                                        · subst c84
                                          have H1 : (some (t376 == (wrap64 (Int.tmod a2 65536)))) = some r := by rw [if_pos rfl] at H; exact H
                                          clear H
                                          have H := H1
                                          clear H1
                                          obtain rfl := Option.some.inj H
                                          try go_wp2_with (first | ((with_reducible refine gate_callee (f := 29) rfl ?_); refine goesL_ (some 54) rfl rfl Try.func29 (by kernel_rfl) rfl #[.string t357] rfl (by (try simp only [List.map_toArray, List.map_cons, List.map_nil]); first | done | rfl | (simp only [List.length_drop, List.length_take]; rfl)) ?_; (with_reducible refine (icmp_Parse.calls t357 t359 t360 t361 t362 t363 _ A20.out).mono ?_); rintro e w85 ⟨rfl, hb⟩; (try clear A20); refine ⟨_, rfl, ?_⟩; have n0_ := Aside0.mk (blk_below (g := gb356) (o := .cells #[.int .i64 (wrap64 (a0)), .int .i64 (wrap64 (a1)), .int .u32 a2, .string (a3.extract 0 ((ji8) : Int).toNat)] 45 (0, 0)) (by (with_reducible repeat (first | refine blk_drewN ?_ _ | refine blk_drew ?_ | refine blk_alloc ?_ _)); exact BK356.out) hb); have n1_ := Aside0.mk (below_step (by repeat (first | (with_reducible first | exact HB.out | apply below_alloc | apply pw_below_drewN | apply below_drew1 | refine below_set ?_ GE356.out) | exact HB.out)) hb); clear BK356; clear HB; have BK356 := n0_; have HB := n1_; clear n0_ n1_; (try clear hb); (try clear hb2); (try clear hk); (try clear hi)) | ((with_reducible refine gate_dst (N := 15) rfl ?_); (try (refine gate_guard (by rfl) ?_; dsimp only)); refine box_event ?hg (N := 15) ?hd (cs := #[.int .i64 0, .int .i64 0, .int .u32 0, .string (⟨#[]⟩ : ByteArray)]) (t := 45) ?hr ?_; (case hd => rfl); (case hg => rfl); (case hr => first | (go_simp; done) | (go_simp; rfl)); intro gb364 hg w86 hbox hb; have n0_ := Aside0.mk (blk_below (g := gb356) (o := .cells #[.int .i64 (wrap64 (a0)), .int .i64 (wrap64 (a1)), .int .u32 a2, .string (a3.extract 0 ((ji8) : Int).toNat)] 45 (0, 0)) (by (with_reducible repeat (first | refine blk_drewN ?_ _ | refine blk_drew ?_ | refine blk_alloc ?_ _)); exact BK356.out) hb); have n1_ := Aside0.mk (below_step (by repeat (first | (with_reducible first | exact HB.out | apply below_alloc | apply pw_below_drewN | apply below_drew1 | refine below_set ?_ GE356.out) | exact HB.out)) hb); have n2_ := Aside0.mk (hbox); have n3_ := Aside0.mk ((by rw [hg]; exact (below_size (by repeat (first | (with_reducible first | exact HB.out | apply below_alloc | apply pw_below_drewN | apply below_drew1 | refine below_set ?_ GE356.out) | exact HB.out))) : w.heap.size ≤ gb364)); have n4_ := Aside0.mk ((by rw [hg]; exact (below_size (by repeat (first | (with_reducible first | exact HB.out | apply below_alloc | apply pw_below_drewN | apply below_drew1 | refine below_set ?_ GE356.out) | exact HB.out))) : w.heap.size ≤ gb364)); have n5_ := Aside0.mk ((by rw [hg]; exact Nat.ne_of_lt (blk_lt (g := gb356) (o := .cells #[.int .i64 (wrap64 (a0)), .int .i64 (wrap64 (a1)), .int .u32 a2, .string (a3.extract 0 ((ji8) : Int).toNat)] 45 (0, 0)) (by (with_reducible repeat (first | refine blk_drewN ?_ _ | refine blk_drew ?_ | refine blk_alloc ?_ _)); exact BK356.out)) : gb356 ≠ gb364)); have n6_ := Aside0.mk ((by rw [hg]; exact Nat.ne_of_gt (blk_lt (g := gb356) (o := .cells #[.int .i64 (wrap64 (a0)), .int .i64 (wrap64 (a1)), .int .u32 a2, .string (a3.extract 0 ((ji8) : Int).toNat)] 45 (0, 0)) (by (with_reducible repeat (first | refine blk_drewN ?_ _ | refine blk_drew ?_ | refine blk_alloc ?_ _)); exact BK356.out)) : gb364 ≠ gb356)); clear BK356; clear HB; have BK356 := n0_; have HB := n1_; have BK364 := n2_; have GW364 := n3_; have GE364 := n4_; have NB356_364 := n5_; have NB364_356 := n6_; clear n0_ n1_ n2_ n3_ n4_ n5_ n6_; clear hb hbox hg; have hnb87 := NB364_356.out; have hnc87 := NB356_364.out; have hcz88_0 : w86.cell? ⟨gb364, 0, none⟩ = some (.int .i64 0) := (blk_cell BK364.out 0).trans rfl; have hcz88_1 : w86.cell? ⟨gb364, 1, none⟩ = some (.int .i64 0) := (blk_cell BK364.out 1).trans rfl; have hcz88_2 : w86.cell? ⟨gb364, 2, none⟩ = some (.int .u32 0) := (blk_cell BK364.out 2).trans rfl; have hcz88_3 : w86.cell? ⟨gb364, 3, none⟩ = some (.string (⟨#[]⟩ : ByteArray)) := (blk_cell BK364.out 3).trans rfl; have hfz88_0 := blk_frozen BK364.out 0; have hfz88_1 := blk_frozen BK364.out 1; have hfz88_2 := blk_frozen BK364.out 2; have hfz88_3 := blk_frozen BK364.out 3) | ((with_reducible refine gate_dst (N := 63) rfl ?_); (try (refine gate_guard (by rfl) ?_; dsimp only)); refine Kb.Q_conv (Kd.int .u8) 5 rfl (N := 63) rfl 9 38 _ rfl t357 rfl Try.underlying9 Try.underlying38 Try.underlying5 (ok := fun _ => True) trivial (of_decide_eq_true (by first | (with_reducible assumption) | assumption)) ?_; intro v366 w89 ho90 hb hg_ hnew_; clear hg_ hnew_; (first | rw [← Ny365.out] at ho90 | (simp only [Int.reduceToNat] at ho90; rw [← Ny365.out] at ho90)); have n0_ := Aside0.mk (Kb.Q_lower ho90 (below_size (by repeat (first | (with_reducible first | exact HB.out | apply below_alloc | apply pw_below_drewN | apply below_drew1 | refine below_set ?_ GE356.out | refine below_set ?_ GE364.out) | exact HB.out)))); have n1_ := Aside0.mk (blk_below (g := gb356) (o := .cells #[.int .i64 (wrap64 (a0)), .int .i64 (wrap64 (a1)), .int .u32 a2, .string (a3.extract 0 ((ji8) : Int).toNat)] 45 (0, 0)) (by (with_reducible repeat (first | refine blk_drewN ?_ _ | refine blk_drew ?_ | refine blk_alloc ?_ _)); refine blk_far ?_ NB356_364.out _; (with_reducible repeat (first | refine blk_drewN ?_ _ | refine blk_drew ?_ | refine blk_alloc ?_ _)); refine blk_far ?_ NB356_364.out _; (with_reducible repeat (first | refine blk_drewN ?_ _ | refine blk_drew ?_ | refine blk_alloc ?_ _)); refine blk_far ?_ NB356_364.out _; (with_reducible repeat (first | refine blk_drewN ?_ _ | refine blk_drew ?_ | refine blk_alloc ?_ _)); refine blk_far ?_ NB356_364.out _; (with_reducible repeat (first | refine blk_drewN ?_ _ | refine blk_drew ?_ | refine blk_alloc ?_ _)); exact BK356.out) hb); have n2_ := Aside0.mk (blk_below (g := gb364) (o := .cells #[.int .i64 t359, .int .i64 t360, .int .u32 t361, .string t362] 45 (0, 0)) (by (with_reducible repeat (first | refine blk_drewN ?_ _ | refine blk_drew ?_ | refine blk_alloc ?_ _)); refine blk_put (cs := #[.int .i64 t359, .int .i64 t360, .int .u32 t361, .string (⟨#[]⟩ : ByteArray)]) ?_ 3 _ rfl; (with_reducible repeat (first | refine blk_drewN ?_ _ | refine blk_drew ?_ | refine blk_alloc ?_ _)); refine blk_put (cs := #[.int .i64 t359, .int .i64 t360, .int .u32 0, .string (⟨#[]⟩ : ByteArray)]) ?_ 2 _ rfl; (with_reducible repeat (first | refine blk_drewN ?_ _ | refine blk_drew ?_ | refine blk_alloc ?_ _)); refine blk_put (cs := #[.int .i64 t359, .int .i64 0, .int .u32 0, .string (⟨#[]⟩ : ByteArray)]) ?_ 1 _ rfl; (with_reducible repeat (first | refine blk_drewN ?_ _ | refine blk_drew ?_ | refine blk_alloc ?_ _)); refine blk_put (cs := #[.int .i64 0, .int .i64 0, .int .u32 0, .string (⟨#[]⟩ : ByteArray)]) ?_ 0 _ rfl; (with_reducible repeat (first | refine blk_drewN ?_ _ | refine blk_drew ?_ | refine blk_alloc ?_ _)); exact BK364.out) hb); have n3_ := Aside0.mk (below_step (by repeat (first | (with_reducible first | exact HB.out | apply below_alloc | apply pw_below_drewN | apply below_drew1 | refine below_set ?_ GE356.out | refine below_set ?_ GE364.out) | exact HB.out)) hb); clear BK356; clear BK364; clear HB; have HO367 := n0_; have BK356 := n1_; have BK364 := n2_; have HB := n3_; clear n0_ n1_ n2_ n3_; clear hb ho90))
                                          have n0_ := Aside0.mk (Kb.Q_drew HO367.out)
                                          have n1_ := Aside0.mk (blk_drew BK356.out)
                                          have n2_ := Aside0.mk (blk_drew BK364.out)
                                          have n3_ := Aside0.mk (below_drew1 HB.out)
                                          clear HO367
                                          clear BK356
                                          clear BK364
                                          clear HB
                                          have HO367 := n0_
                                          have BK356 := n1_
                                          have BK364 := n2_
                                          have HB := n3_
                                          clear n0_ n1_ n2_ n3_
                                          obtain ⟨Ao92, co92, eo92, _⟩ := Kb.Q_slice HO367.out
                                          (first | subst eo92 | (injection eo92 with f1_ f2_ f3_; have f4_ := f1_.symm; have f5_ := f3_.symm; clear f1_ f2_ f3_; subst f4_; subst f5_))
                                          have p368 : 0 ≤ ((ji24) : Int) := of_decide_eq_true (by first | (with_reducible assumption) | assumption)
                                          have q368 : (ji24) < (y365.length : Int) := of_decide_eq_true (by first | (with_reducible assumption) | assumption)
                                          obtain ⟨ad368, e368, hx368_0⟩ := Kd.at_int (Kb.Q_reads' HO367.out).2.2 (ji24) p368 q368
                                          cases e368
                                          replace p368 := eq_true p368
                                          replace q368 := eq_true q368
                                          have p30 : 0 ≤ ((ji24) : Int) := of_decide_eq_true (by first | (with_reducible assumption) | assumption)
                                          have q30 : ((ji24) : Int) < ((y365.length : Int) : Int) := of_decide_eq_true (by first | (with_reducible assumption) | assumption)
                                          obtain ⟨go30, co30, eo30, gb30, gl30, cl30, HG30⟩ := Kb.Q_form HO367.out (by omega)
                                          (first | cases eo30 | (injection eo30 with ea_ en_ ec_; (first | subst ea_ | (injection ea_ with ea_; subst ea_)); subst ec_; clear en_))
                                          have GB30 := Aside0.mk gb30
                                          have GG30 := Aside0.mk HG30
                                          clear gb30 gl30 HG30
                                          (first | simp only [add_at, Nat.zero_add] at hx368_0 | skip)
                                          obtain ⟨hx30_0, hf30_0⟩ := Kb.Q_cell 0 HO367.out ((ji24) : Int) p30 q30
                                          replace p30 := eq_true p30
                                          replace q30 := eq_true q30
                                          have HP93 := (Kb.Q_putg HO367.out ((ji24) : Int) (of_decide_eq_true (by first | (with_reducible assumption) | assumption)) (by have h_ : ((ji24) : Int) < ((y365.length : Int) : Int) := of_decide_eq_true (by first | (with_reducible assumption) | assumption); first | exact h_ | (have e_ := (Kb.Q_reads' HO367.out).1; omega) | simpa using h_) (Go.bits .xor .u8 (rd y365 (ji24)) (ji29))).1
                                          rw [← Ny369.out] at HP93
                                          have HQ93 := Aside0.mk HP93
                                          clear HP93
                                          refine start_ (n := 20) (S := fun w' => w'.cell? ⟨go30, ((ji24)).toNat, none⟩ = some (.int .u8 (rd y365 (ji24)))) (ds := [19]) #[false, false, false, false, false, false, false, false, false, false, false, false, false, false, false, false, false, false, false, false] (by kernel_rfl) rfl rfl (hx368_0) (fun hHeld => ?_); refine with_tabW weighbridgelaw07_IcmpBack.tab12 weighbridgelaw07_IcmpBack.bits12 (fun HT_ HW_ => ?_)
                                          generalize w89.drew = w91 at HO367 BK356 BK364 HB GG30 HQ93 hf30_0 hx30_0 hx368_0 hHeld ⊢
                                          refine pure_ (i := 0) (N := some 64) (v := ?_) (a' := ?_) #[true, false, false, false, false, false, false, false, false, false, false, false, false, false, false, false, false, false, false, false] rfl rfl (any_of HT_.out (by kernel_rfl)) (fun _ _ _ h => h) (Or.inl ⟨by rfl, ?_⟩) ?_ ?_
                                          rotate_left
                                          · intro w'
                                            go_simp
                                            with_reducible rfl
                                          rotate_left
                                          · simp only [Act.put, List.setIfInBounds_toArray, List.set_cons_zero, List.set_cons_succ, i64_w, i32_w]
                                            rfl
                                          refine pure_ (i := 1) (N := some 65) (v := ?_) (a' := ?_) #[true, true, false, false, false, false, false, false, false, false, false, false, false, false, false, false, false, false, false, false] rfl rfl (any_of HT_.out (by kernel_rfl)) (fun _ _ _ h => h) (Or.inl ⟨by rfl, ?_⟩) ?_ ?_
                                          rotate_left
                                          · intro w'
                                            go_simp
                                            with_reducible rfl
                                          rotate_left
                                          · simp only [Act.put, List.setIfInBounds_toArray, List.set_cons_zero, List.set_cons_succ, i64_w, i32_w]
                                            rfl
                                          refine pure_ (i := 2) (N := some 66) (v := ?_) (a' := ?_) #[true, true, true, false, false, false, false, false, false, false, false, false, false, false, false, false, false, false, false, false] rfl rfl (any_of HT_.out (by kernel_rfl)) (fun _ _ _ h => h) (Or.inl ⟨by rfl, ?_⟩) ?_ ?_
                                          rotate_left
                                          · intro w'
                                            go_simp
                                            with_reducible rfl
                                          rotate_left
                                          · simp only [Act.put, List.setIfInBounds_toArray, List.set_cons_zero, List.set_cons_succ, i64_w, i32_w]
                                            rfl
                                          refine pure_ (i := 3) (N := some 67) (v := ?_) (a' := ?_) #[true, true, true, true, false, false, false, false, false, false, false, false, false, false, false, false, false, false, false, false] rfl rfl (any_of HT_.out (by kernel_rfl)) (fun _ _ _ h => h) (Or.inl ⟨by rfl, ?_⟩) ?_ ?_
                                          rotate_left
                                          · intro w'
                                            go_simp
                                            with_reducible rfl
                                          rotate_left
                                          · simp only [Act.put, List.setIfInBounds_toArray, List.set_cons_zero, List.set_cons_succ, i64_w, i32_w]
                                            rfl
                                          refine pure_ (i := 4) (N := some 68) (v := ?_) (a' := ?_) #[true, true, true, true, true, false, false, false, false, false, false, false, false, false, false, false, false, false, false, false] rfl rfl (any_of HT_.out (by kernel_rfl)) (fun _ _ _ h => h) (Or.inl ⟨by rfl, ?_⟩) ?_ ?_
                                          rotate_left
                                          · intro w'
                                            go_simp
                                            with_reducible rfl
                                          rotate_left
                                          · simp only [Act.put, List.setIfInBounds_toArray, List.set_cons_zero, List.set_cons_succ, i64_w, i32_w]
                                            rfl
                                          refine pure_ (i := 5) (N := some 69) (v := ?_) (a' := ?_) #[true, true, true, true, true, true, false, false, false, false, false, false, false, false, false, false, false, false, false, false] rfl rfl (any_of HT_.out (by kernel_rfl)) (fun _ _ _ h => h) (Or.inl ⟨by rfl, ?_⟩) ?_ ?_
                                          rotate_left
                                          · intro w'
                                            go_simp
                                            with_reducible rfl
                                          rotate_left
                                          · simp only [Act.put, List.setIfInBounds_toArray, List.set_cons_zero, List.set_cons_succ, i64_w, i32_w]
                                            rfl
                                          refine pure_ (i := 6) (N := some 70) (v := ?_) (a' := ?_) #[true, true, true, true, true, true, true, false, false, false, false, false, false, false, false, false, false, false, false, false] rfl rfl (any_of HT_.out (by kernel_rfl)) (fun _ _ _ h => h) (Or.inl ⟨by rfl, ?_⟩) ?_ ?_
                                          rotate_left
                                          · intro w'
                                            go_simp
                                            with_reducible rfl
                                          rotate_left
                                          · simp only [Act.put, List.setIfInBounds_toArray, List.set_cons_zero, List.set_cons_succ, i64_w, i32_w]
                                            rfl
                                          refine pure_ (i := 7) (N := some 71) (v := ?_) (a' := ?_) #[true, true, true, true, true, true, true, true, false, false, false, false, false, false, false, false, false, false, false, false] rfl rfl (any_of HT_.out (by kernel_rfl)) (fun _ _ _ h => h) (Or.inl ⟨by rfl, ?_⟩) ?_ ?_
                                          rotate_left
                                          · intro w'
                                            go_simp
                                            with_reducible rfl
                                          rotate_left
                                          · simp only [Act.put, List.setIfInBounds_toArray, List.set_cons_zero, List.set_cons_succ, i64_w, i32_w]
                                            rfl
                                          refine pure_ (i := 8) (N := some 72) (v := ?_) (a' := ?_) #[true, true, true, true, true, true, true, true, true, false, false, false, false, false, false, false, false, false, false, false] rfl rfl (any_of HT_.out (by kernel_rfl)) (fun _ _ _ h => h) (Or.inl ⟨by rfl, ?_⟩) ?_ ?_
                                          rotate_left
                                          · intro w'
                                            go_simp
                                            with_reducible rfl
                                          rotate_left
                                          · simp only [Act.put, List.setIfInBounds_toArray, List.set_cons_zero, List.set_cons_succ, i64_w, i32_w]
                                            rfl
                                          refine pure_ (i := 9) (N := some 73) (v := ?_) (a' := ?_) #[true, true, true, true, true, true, true, true, true, true, false, false, false, false, false, false, false, false, false, false] rfl rfl (any_of HT_.out (by kernel_rfl)) (fun _ _ _ h => h) (Or.inl ⟨by rfl, ?_⟩) ?_ ?_
                                          rotate_left
                                          · intro w'
                                            go_simp
                                            with_reducible rfl
                                          rotate_left
                                          · simp only [Act.put, List.setIfInBounds_toArray, List.set_cons_zero, List.set_cons_succ, i64_w, i32_w]
                                            rfl
                                          refine pure_ (i := 10) (N := some 74) (v := ?_) (a' := ?_) #[true, true, true, true, true, true, true, true, true, true, true, false, false, false, false, false, false, false, false, false] rfl rfl (any_of HT_.out (by kernel_rfl)) (fun _ _ _ h => h) (Or.inl ⟨by rfl, ?_⟩) ?_ ?_
                                          rotate_left
                                          · intro w'
                                            go_simp
                                            with_reducible rfl
                                          rotate_left
                                          · simp only [Act.put, List.setIfInBounds_toArray, List.set_cons_zero, List.set_cons_succ, i64_w, i32_w]
                                            rfl
                                          refine pure_ (i := 11) (N := some 75) (v := ?_) (a' := ?_) #[true, true, true, true, true, true, true, true, true, true, true, true, false, false, false, false, false, false, false, false] rfl rfl (any_of HT_.out (by kernel_rfl)) (fun _ _ _ h => h) (Or.inl ⟨by rfl, ?_⟩) ?_ ?_
                                          rotate_left
                                          · intro w'
                                            go_simp
                                            with_reducible rfl
                                          rotate_left
                                          · simp only [Act.put, List.setIfInBounds_toArray, List.set_cons_zero, List.set_cons_succ, i64_w, i32_w]
                                            rfl
                                          refine pure_ (i := 12) (N := some 76) (v := ?_) (a' := ?_) #[true, true, true, true, true, true, true, true, true, true, true, true, true, false, false, false, false, false, false, false] rfl rfl (any_of HT_.out (by kernel_rfl)) (fun _ _ _ h => h) (Or.inl ⟨by rfl, ?_⟩) ?_ ?_
                                          rotate_left
                                          · intro w'
                                            go_simp
                                            with_reducible rfl
                                          rotate_left
                                          · simp only [Act.put, List.setIfInBounds_toArray, List.set_cons_zero, List.set_cons_succ, i64_w, i32_w]
                                            rfl
                                          refine pure_ (i := 14) (N := some 78) (v := ?_) (a' := ?_) #[true, true, true, true, true, true, true, true, true, true, true, true, true, false, true, false, false, false, false, false] rfl rfl (any_of HT_.out (by kernel_rfl)) (fun _ _ _ h => h) (Or.inl ⟨by rfl, ?_⟩) ?_ ?_
                                          rotate_left
                                          · intro w'
                                            go_simp
                                            with_reducible rfl
                                          rotate_left
                                          · simp only [Act.put, List.setIfInBounds_toArray, List.set_cons_zero, List.set_cons_succ, i64_w, i32_w]
                                            rfl
                                          refine pure_ (i := 15) (N := some 79) (v := ?_) (a' := ?_) #[true, true, true, true, true, true, true, true, true, true, true, true, true, false, true, true, false, false, false, false] rfl rfl (any_of HT_.out (by kernel_rfl)) (fun _ _ _ h => h) (Or.inl ⟨by rfl, ?_⟩) ?_ ?_
                                          rotate_left
                                          · intro w'
                                            go_simp
                                            with_reducible rfl
                                          rotate_left
                                          · simp only [Act.put, List.setIfInBounds_toArray, List.set_cons_zero, List.set_cons_succ, i64_w, i32_w]
                                            rfl
                                          refine pure_ (i := 16) (N := some 80) (v := ?_) (a' := ?_) #[true, true, true, true, true, true, true, true, true, true, true, true, true, false, true, true, true, false, false, false] rfl rfl (any_of HT_.out (by kernel_rfl)) (fun _ _ _ h => h) (Or.inl ⟨by rfl, ?_⟩) ?_ ?_
                                          rotate_left
                                          · intro w'
                                            go_simp
                                            with_reducible rfl
                                          rotate_left
                                          · simp only [Act.put, List.setIfInBounds_toArray, List.set_cons_zero, List.set_cons_succ, i64_w, i32_w]
                                            rfl
                                          refine take_ (i := 13) (N := some 77) (v := ?_) (a' := ?_) #[true, true, true, true, true, true, true, true, true, true, true, true, true, true, true, true, true, false, false, false] rfl rfl (take_ofW HT_.out HW_.out (by kernel_rfl)) (fun _ _ _ h => h) (Or.inl ⟨by rfl, ?_⟩) hHeld ?_ ?_
                                          rotate_left
                                          · intro w' s0
                                            go_simp
                                            with_reducible rfl
                                          rotate_left
                                          · simp only [Act.put, List.setIfInBounds_toArray, List.set_cons_zero, List.set_cons_succ, i64_w, i32_w]
                                            rfl
                                          refine pure_ (i := 17) (N := some 81) (v := ?_) (a' := ?_) #[true, true, true, true, true, true, true, true, true, true, true, true, true, true, true, true, true, true, false, false] rfl rfl (any_of HT_.out (by kernel_rfl)) (fun _ _ _ h => h) (Or.inl ⟨by rfl, ?_⟩) ?_ ?_
                                          rotate_left
                                          · intro w'
                                            go_simp
                                            with_reducible rfl
                                          rotate_left
                                          · simp only [Act.put, List.setIfInBounds_toArray, List.set_cons_zero, List.set_cons_succ, i64_w, i32_w]
                                            rfl
                                          refine pure_ (i := 18) (N := some 82) (v := ?_) (a' := ?_) #[true, true, true, true, true, true, true, true, true, true, true, true, true, true, true, true, true, true, true, false] rfl rfl (any_of HT_.out (by kernel_rfl)) (fun _ _ _ h => h) (Or.inl ⟨by rfl, ?_⟩) ?_ ?_
                                          rotate_left
                                          · intro w'
                                            go_simp
                                            with_reducible rfl
                                          rotate_left
                                          · simp only [Act.put, List.setIfInBounds_toArray, List.set_cons_zero, List.set_cons_succ, i64_w, i32_w]
                                            rfl
                                          refine last_ (i := 19) (N := none) #[true, true, true, true, true, true, true, true, true, true, true, true, true, true, true, true, true, true, true, true] rfl rfl (one_of HT_.out (by kernel_rfl)) (by decide) (fun K hK => ?_)
                                          refine skip_ (w1 := ?_) (by rfl) rfl ?_ ?_
                                          rotate_left
                                          · go_simp
                                            rfl
                                          refine hK.out _ _ ?_
                                          clear hK K
                                          refine done_ (done_of HT_.out (by kernel_rfl)) ?_
                                          have n0_ : Aside0 (Kb.Q (Kd.int .u8) 5 (w91.setCell ⟨go30, ((ji24) : Int).toNat, none⟩ (.int .u8 (Go.bits .xor .u8 (rd y365 (ji24)) (ji29)))) w.heap.size (fun _ => True) (.slice (some ⟨go30, 0, none⟩) y365.length co92) y369) := ⟨by (with_reducible repeat (first | apply Kb.Q_alloc | apply Kb.Q_drewN | apply Kb.Q_drew)); exact HQ93.out⟩
                                          have n1_ : Aside0 ((w91.setCell ⟨go30, ((ji24) : Int).toNat, none⟩ (.int .u8 (Go.bits .xor .u8 (rd y365 (ji24)) (ji29)))).heap[gb356]? = some (.cells #[.int .i64 (wrap64 (a0)), .int .i64 (wrap64 (a1)), .int .u32 a2, .string (a3.extract 0 ((ji8) : Int).toNat)] 45 (0, 0))) := ⟨by (with_reducible repeat (first | refine blk_drewN ?_ _ | refine blk_drew ?_ | refine blk_alloc ?_ _)); refine blk_far ?_ (by have h_ := Kb.Q_ne HO367.out BK356.out (by decide); intro e_; exact h_ (by rw [e_]; rfl)) _; (with_reducible repeat (first | refine blk_drewN ?_ _ | refine blk_drew ?_ | refine blk_alloc ?_ _)); exact BK356.out⟩
                                          have n2_ : Aside0 ((w91.setCell ⟨go30, ((ji24) : Int).toNat, none⟩ (.int .u8 (Go.bits .xor .u8 (rd y365 (ji24)) (ji29)))).heap[gb364]? = some (.cells #[.int .i64 t359, .int .i64 t360, .int .u32 t361, .string t362] 45 (0, 0))) := ⟨by (with_reducible repeat (first | refine blk_drewN ?_ _ | refine blk_drew ?_ | refine blk_alloc ?_ _)); refine blk_far ?_ (by have h_ := Kb.Q_ne HO367.out BK364.out (by decide); intro e_; exact h_ (by rw [e_]; rfl)) _; (with_reducible repeat (first | refine blk_drewN ?_ _ | refine blk_drew ?_ | refine blk_alloc ?_ _)); exact BK364.out⟩
                                          have n3_ : Aside0 (Below w.heap.size w (w91.setCell ⟨go30, ((ji24) : Int).toNat, none⟩ (.int .u8 (Go.bits .xor .u8 (rd y365 (ji24)) (ji29))))) := ⟨by repeat (first | (with_reducible first | exact HB.out | apply below_alloc | apply pw_below_drewN | apply below_drew1 | refine below_set ?_ GB30.out | refine below_set ?_ GE356.out | refine below_set ?_ GE364.out) | exact HB.out)⟩
                                          (try clear HO367)
                                          (try clear BK356)
                                          (try clear BK364)
                                          (try clear HB)
                                          generalize (w91.setCell ⟨go30, ((ji24) : Int).toNat, none⟩ (.int .u8 (Go.bits .xor .u8 (rd y365 (ji24)) (ji29)))) = w94 at n0_ n1_ n2_ n3_ ⊢
                                          have HO367 := n0_
                                          have BK356 := n1_
                                          have BK364 := n2_
                                          have HB := n3_
                                          clear n0_ n1_ n2_ n3_
                                          have hcv95 := Kb.Q_string (P := Try.prog) Try.underlying38 Try.underlying5 Try.underlying9 (HO367.out)
                                          try go_wp2_with (first | ((with_reducible refine gate_callee (f := 29) rfl ?_); refine goesL_ (some 86) rfl rfl Try.func29 (by kernel_rfl) rfl #[.string (strOfNums y369)] rfl (by (try simp only [List.map_toArray, List.map_cons, List.map_nil]); first | done | rfl | (simp only [List.length_drop, List.length_take]; rfl)) ?_; (with_reducible refine (icmp_Parse.calls (strOfNums y369) t370 t371 t372 t373 t374 _ A31.out).mono ?_); rintro e w96 ⟨rfl, hb⟩; (try clear A31); refine ⟨_, rfl, ?_⟩; have n0_ := Aside0.mk (Kb.Q_below (by (with_reducible repeat (first | apply Kb.Q_alloc | apply Kb.Q_drewN | apply Kb.Q_drew)); exact HO367.out) hb); have n1_ := Aside0.mk (blk_below (g := gb356) (o := .cells #[.int .i64 (wrap64 (a0)), .int .i64 (wrap64 (a1)), .int .u32 a2, .string (a3.extract 0 ((ji8) : Int).toNat)] 45 (0, 0)) (by (with_reducible repeat (first | refine blk_drewN ?_ _ | refine blk_drew ?_ | refine blk_alloc ?_ _)); exact BK356.out) hb); have n2_ := Aside0.mk (blk_below (g := gb364) (o := .cells #[.int .i64 t359, .int .i64 t360, .int .u32 t361, .string t362] 45 (0, 0)) (by (with_reducible repeat (first | refine blk_drewN ?_ _ | refine blk_drew ?_ | refine blk_alloc ?_ _)); exact BK364.out) hb); have n3_ := Aside0.mk (below_step (by repeat (first | (with_reducible first | exact HB.out | apply below_alloc | apply pw_below_drewN | apply below_drew1 | refine below_set ?_ GE356.out | refine below_set ?_ GE364.out) | exact HB.out)) hb); clear HO367; clear BK356; clear BK364; clear HB; have HO367 := n0_; have BK356 := n1_; have BK364 := n2_; have HB := n3_; clear n0_ n1_ n2_ n3_; (try clear hb); (try clear hb2); (try clear hk); (try clear hi)) | ((with_reducible refine gate_dst (N := 18) rfl ?_); (try (refine gate_guard (by rfl) ?_; dsimp only)); refine box_event ?hg (N := 18) ?hd (cs := #[.int .i64 0, .int .i64 0, .int .u32 0, .string (⟨#[]⟩ : ByteArray)]) (t := 45) ?hr ?_; (case hd => rfl); (case hg => rfl); (case hr => first | (go_simp; done) | (go_simp; rfl)); intro gb375 hg w97 hbox hb; have n0_ := Aside0.mk (Kb.Q_below (by (with_reducible repeat (first | apply Kb.Q_alloc | apply Kb.Q_drewN | apply Kb.Q_drew)); exact HO367.out) hb); have n1_ := Aside0.mk (blk_below (g := gb356) (o := .cells #[.int .i64 (wrap64 (a0)), .int .i64 (wrap64 (a1)), .int .u32 a2, .string (a3.extract 0 ((ji8) : Int).toNat)] 45 (0, 0)) (by (with_reducible repeat (first | refine blk_drewN ?_ _ | refine blk_drew ?_ | refine blk_alloc ?_ _)); exact BK356.out) hb); have n2_ := Aside0.mk (blk_below (g := gb364) (o := .cells #[.int .i64 t359, .int .i64 t360, .int .u32 t361, .string t362] 45 (0, 0)) (by (with_reducible repeat (first | refine blk_drewN ?_ _ | refine blk_drew ?_ | refine blk_alloc ?_ _)); exact BK364.out) hb); have n3_ := Aside0.mk (below_step (by repeat (first | (with_reducible first | exact HB.out | apply below_alloc | apply pw_below_drewN | apply below_drew1 | refine below_set ?_ GE356.out | refine below_set ?_ GE364.out) | exact HB.out)) hb); have n4_ := Aside0.mk (hbox); have n5_ := Aside0.mk ((by rw [hg]; exact (below_size (by repeat (first | (with_reducible first | exact HB.out | apply below_alloc | apply pw_below_drewN | apply below_drew1 | refine below_set ?_ GE356.out | refine below_set ?_ GE364.out) | exact HB.out))) : w.heap.size ≤ gb375)); have n6_ := Aside0.mk ((by rw [hg]; exact (below_size (by repeat (first | (with_reducible first | exact HB.out | apply below_alloc | apply pw_below_drewN | apply below_drew1 | refine below_set ?_ GE356.out | refine below_set ?_ GE364.out) | exact HB.out))) : w.heap.size ≤ gb375)); have n7_ := Aside0.mk ((by rw [hg]; exact Nat.ne_of_lt (blk_lt (g := gb356) (o := .cells #[.int .i64 (wrap64 (a0)), .int .i64 (wrap64 (a1)), .int .u32 a2, .string (a3.extract 0 ((ji8) : Int).toNat)] 45 (0, 0)) (by (with_reducible repeat (first | refine blk_drewN ?_ _ | refine blk_drew ?_ | refine blk_alloc ?_ _)); exact BK356.out)) : gb356 ≠ gb375)); have n8_ := Aside0.mk ((by rw [hg]; exact Nat.ne_of_gt (blk_lt (g := gb356) (o := .cells #[.int .i64 (wrap64 (a0)), .int .i64 (wrap64 (a1)), .int .u32 a2, .string (a3.extract 0 ((ji8) : Int).toNat)] 45 (0, 0)) (by (with_reducible repeat (first | refine blk_drewN ?_ _ | refine blk_drew ?_ | refine blk_alloc ?_ _)); exact BK356.out)) : gb375 ≠ gb356)); have n9_ := Aside0.mk ((by rw [hg]; exact Nat.ne_of_lt (blk_lt (g := gb364) (o := .cells #[.int .i64 t359, .int .i64 t360, .int .u32 t361, .string t362] 45 (0, 0)) (by (with_reducible repeat (first | refine blk_drewN ?_ _ | refine blk_drew ?_ | refine blk_alloc ?_ _)); exact BK364.out)) : gb364 ≠ gb375)); have n10_ := Aside0.mk ((by rw [hg]; exact Nat.ne_of_gt (blk_lt (g := gb364) (o := .cells #[.int .i64 t359, .int .i64 t360, .int .u32 t361, .string t362] 45 (0, 0)) (by (with_reducible repeat (first | refine blk_drewN ?_ _ | refine blk_drew ?_ | refine blk_alloc ?_ _)); exact BK364.out)) : gb375 ≠ gb364)); clear HO367; clear BK356; clear BK364; clear HB; have HO367 := n0_; have BK356 := n1_; have BK364 := n2_; have HB := n3_; have BK375 := n4_; have GW375 := n5_; have GE375 := n6_; have NB356_375 := n7_; have NB375_356 := n8_; have NB364_375 := n9_; have NB375_364 := n10_; clear n0_ n1_ n2_ n3_ n4_ n5_ n6_ n7_ n8_ n9_ n10_; clear hb hbox hg; have hnb98 := NB375_356.out; have hnc98 := NB356_375.out; have hnb99 := NB375_364.out; have hnc99 := NB364_375.out; have hcz100_0 : w97.cell? ⟨gb375, 0, none⟩ = some (.int .i64 0) := (blk_cell BK375.out 0).trans rfl; have hcz100_1 : w97.cell? ⟨gb375, 1, none⟩ = some (.int .i64 0) := (blk_cell BK375.out 1).trans rfl; have hcz100_2 : w97.cell? ⟨gb375, 2, none⟩ = some (.int .u32 0) := (blk_cell BK375.out 2).trans rfl; have hcz100_3 : w97.cell? ⟨gb375, 3, none⟩ = some (.string (⟨#[]⟩ : ByteArray)) := (blk_cell BK375.out 3).trans rfl; have hfz100_0 := blk_frozen BK375.out 0; have hfz100_1 := blk_frozen BK375.out 1; have hfz100_2 := blk_frozen BK375.out 2; have hfz100_3 := blk_frozen BK375.out 3; have hcz101_0 : w97.cell? ⟨gb356, 0, none⟩ = some (.int .i64 (wrap64 (a0))) := (blk_cell BK356.out 0).trans rfl; have hcz101_1 : w97.cell? ⟨gb356, 1, none⟩ = some (.int .i64 (wrap64 (a1))) := (blk_cell BK356.out 1).trans rfl; have hcz101_2 : w97.cell? ⟨gb356, 2, none⟩ = some (.int .u32 a2) := (blk_cell BK356.out 2).trans rfl; have hcz101_3 : w97.cell? ⟨gb356, 3, none⟩ = some (.string (a3.extract 0 ((ji8) : Int).toNat)) := (blk_cell BK356.out 3).trans rfl; have hfz101_0 := blk_frozen BK356.out 0; have hfz101_1 := blk_frozen BK356.out 1; have hfz101_2 := blk_frozen BK356.out 2; have hfz101_3 := blk_frozen BK356.out 3) | ((with_reducible refine gate_callee (f := 25) rfl ?_); refine goesL_ (some 91) rfl rfl Try.func25 (by kernel_rfl) rfl #[.agg #[.int .i64 (wrap64 (a0)), .int .i64 (wrap64 (a1)), .int .u32 a2, .string (a3.extract 0 ((ji8) : Int).toNat)]] rfl (by (try simp only [List.map_toArray, List.map_cons, List.map_nil]); first | done | (simp only [hji8]; rfl) | rfl | (simp only [List.length_drop, List.length_take]; rfl)) ?_; (with_reducible refine (icmp_MTU.calls (wrap64 (a0)) (wrap64 (a1)) a2 (a3.extract 0 ((ji8) : Int).toNat) t376 true _ A32.out).mono ?_); rintro e w102 ⟨rfl, hb⟩; (try clear A32); refine ⟨_, rfl, ?_⟩; have n0_ := Aside0.mk (Kb.Q_below (by (with_reducible repeat (first | apply Kb.Q_alloc | apply Kb.Q_drewN | apply Kb.Q_drew)); exact (Kb.Q_mono (Kb.Q_far (p := ⟨gb375, 3, none⟩) (Kb.Q_far (p := ⟨gb375, 2, none⟩) (Kb.Q_far (p := ⟨gb375, 1, none⟩) (Kb.Q_far (p := ⟨gb375, 0, none⟩) (Kb.Q_types HO367.out BK375.out (by decide)) (fun _ hk => hk.2) (.int .i64 t370)) (fun _ hk => hk.2) (.int .i64 t371)) (fun _ hk => hk.2) (.int .u32 t372)) (fun _ hk => hk.2) (.string t373)) (fun _ h_ => h_.1))) hb); have n1_ := Aside0.mk (blk_below (g := gb356) (o := .cells #[.int .i64 (wrap64 (a0)), .int .i64 (wrap64 (a1)), .int .u32 a2, .string (a3.extract 0 ((ji8) : Int).toNat)] 45 (0, 0)) (by (with_reducible repeat (first | refine blk_drewN ?_ _ | refine blk_drew ?_ | refine blk_alloc ?_ _)); refine blk_far ?_ NB356_375.out _; (with_reducible repeat (first | refine blk_drewN ?_ _ | refine blk_drew ?_ | refine blk_alloc ?_ _)); refine blk_far ?_ NB356_375.out _; (with_reducible repeat (first | refine blk_drewN ?_ _ | refine blk_drew ?_ | refine blk_alloc ?_ _)); refine blk_far ?_ NB356_375.out _; (with_reducible repeat (first | refine blk_drewN ?_ _ | refine blk_drew ?_ | refine blk_alloc ?_ _)); refine blk_far ?_ NB356_375.out _; (with_reducible repeat (first | refine blk_drewN ?_ _ | refine blk_drew ?_ | refine blk_alloc ?_ _)); exact BK356.out) hb); have n2_ := Aside0.mk (blk_below (g := gb364) (o := .cells #[.int .i64 t359, .int .i64 t360, .int .u32 t361, .string t362] 45 (0, 0)) (by (with_reducible repeat (first | refine blk_drewN ?_ _ | refine blk_drew ?_ | refine blk_alloc ?_ _)); refine blk_far ?_ NB364_375.out _; (with_reducible repeat (first | refine blk_drewN ?_ _ | refine blk_drew ?_ | refine blk_alloc ?_ _)); refine blk_far ?_ NB364_375.out _; (with_reducible repeat (first | refine blk_drewN ?_ _ | refine blk_drew ?_ | refine blk_alloc ?_ _)); refine blk_far ?_ NB364_375.out _; (with_reducible repeat (first | refine blk_drewN ?_ _ | refine blk_drew ?_ | refine blk_alloc ?_ _)); refine blk_far ?_ NB364_375.out _; (with_reducible repeat (first | refine blk_drewN ?_ _ | refine blk_drew ?_ | refine blk_alloc ?_ _)); exact BK364.out) hb); have n3_ := Aside0.mk (blk_below (g := gb375) (o := .cells #[.int .i64 t370, .int .i64 t371, .int .u32 t372, .string t373] 45 (0, 0)) (by (with_reducible repeat (first | refine blk_drewN ?_ _ | refine blk_drew ?_ | refine blk_alloc ?_ _)); refine blk_put (cs := #[.int .i64 t370, .int .i64 t371, .int .u32 t372, .string (⟨#[]⟩ : ByteArray)]) ?_ 3 _ rfl; (with_reducible repeat (first | refine blk_drewN ?_ _ | refine blk_drew ?_ | refine blk_alloc ?_ _)); refine blk_put (cs := #[.int .i64 t370, .int .i64 t371, .int .u32 0, .string (⟨#[]⟩ : ByteArray)]) ?_ 2 _ rfl; (with_reducible repeat (first | refine blk_drewN ?_ _ | refine blk_drew ?_ | refine blk_alloc ?_ _)); refine blk_put (cs := #[.int .i64 t370, .int .i64 0, .int .u32 0, .string (⟨#[]⟩ : ByteArray)]) ?_ 1 _ rfl; (with_reducible repeat (first | refine blk_drewN ?_ _ | refine blk_drew ?_ | refine blk_alloc ?_ _)); refine blk_put (cs := #[.int .i64 0, .int .i64 0, .int .u32 0, .string (⟨#[]⟩ : ByteArray)]) ?_ 0 _ rfl; (with_reducible repeat (first | refine blk_drewN ?_ _ | refine blk_drew ?_ | refine blk_alloc ?_ _)); exact BK375.out) hb); have n4_ := Aside0.mk (below_step (by repeat (first | (with_reducible first | exact HB.out | apply below_alloc | apply pw_below_drewN | apply below_drew1 | refine below_set ?_ GE356.out | refine below_set ?_ GE364.out | refine below_set ?_ GE375.out) | exact HB.out)) hb); clear HO367; clear BK356; clear BK364; clear BK375; clear HB; have HO367 := n0_; have BK356 := n1_; have BK364 := n2_; have BK375 := n3_; have HB := n4_; clear n0_ n1_ n2_ n3_ n4_; (try clear hb); (try clear hb2); (try clear hk); (try clear hi); have hcz103_0 : w102.cell? ⟨gb364, 0, none⟩ = some (.int .i64 t359) := (blk_cell BK364.out 0).trans rfl; have hcz103_1 : w102.cell? ⟨gb364, 1, none⟩ = some (.int .i64 t360) := (blk_cell BK364.out 1).trans rfl; have hcz103_2 : w102.cell? ⟨gb364, 2, none⟩ = some (.int .u32 t361) := (blk_cell BK364.out 2).trans rfl; have hcz103_3 : w102.cell? ⟨gb364, 3, none⟩ = some (.string t362) := (blk_cell BK364.out 3).trans rfl; have hfz103_0 := blk_frozen BK364.out 0; have hfz103_1 := blk_frozen BK364.out 1; have hfz103_2 := blk_frozen BK364.out 2; have hfz103_3 := blk_frozen BK364.out 3; have hcz104_0 : w102.cell? ⟨gb356, 0, none⟩ = some (.int .i64 (wrap64 (a0))) := (blk_cell BK356.out 0).trans rfl; have hcz104_1 : w102.cell? ⟨gb356, 1, none⟩ = some (.int .i64 (wrap64 (a1))) := (blk_cell BK356.out 1).trans rfl; have hcz104_2 : w102.cell? ⟨gb356, 2, none⟩ = some (.int .u32 a2) := (blk_cell BK356.out 2).trans rfl; have hcz104_3 : w102.cell? ⟨gb356, 3, none⟩ = some (.string (a3.extract 0 ((ji8) : Int).toNat)) := (blk_cell BK356.out 3).trans rfl; have hfz104_0 := blk_frozen BK356.out 0; have hfz104_1 := blk_frozen BK356.out 1; have hfz104_2 := blk_frozen BK356.out 2; have hfz104_3 := blk_frozen BK356.out 3; have hcz105_0 : w102.cell? ⟨gb375, 0, none⟩ = some (.int .i64 t370) := (blk_cell BK375.out 0).trans rfl; have hcz105_1 : w102.cell? ⟨gb375, 1, none⟩ = some (.int .i64 t371) := (blk_cell BK375.out 1).trans rfl; have hcz105_2 : w102.cell? ⟨gb375, 2, none⟩ = some (.int .u32 t372) := (blk_cell BK375.out 2).trans rfl; have hcz105_3 : w102.cell? ⟨gb375, 3, none⟩ = some (.string t373) := (blk_cell BK375.out 3).trans rfl; have hfz105_0 := blk_frozen BK375.out 0; have hfz105_1 := blk_frozen BK375.out 1; have hfz105_2 := blk_frozen BK375.out 2; have hfz105_3 := blk_frozen BK375.out 3))
                                          go_ret
                                          exact ⟨by first | rfl | (simp [errW_none, errW_some] <;> rfl) | (simp only [← hji8, ← hji24, ← hji27, ← hji29]; first | rfl | (simp [errW_none, errW_some] <;> rfl)) | (simp [*, errW_none, errW_some] <;> rfl), by repeat (first | (with_reducible first | exact HB.out | apply below_alloc | apply pw_below_drewN | apply below_drew1 | refine below_set ?_ GE356.out | refine below_set ?_ GE364.out | refine below_set ?_ GE375.out) | exact HB.out)⟩
                                        · replace c84 := Bool.eq_false_iff.mpr c84
                                          subst c84
                                          have H1 : (some true) = some r := by rw [if_neg (show ¬ (false = true) by decide)] at H; exact H
                                          clear H
                                          have H := H1
                                          clear H1
                                          obtain rfl := Option.some.inj H
                                          try go_wp2_with (first | ((with_reducible refine gate_callee (f := 29) rfl ?_); refine goesL_ (some 54) rfl rfl Try.func29 (by kernel_rfl) rfl #[.string t357] rfl (by (try simp only [List.map_toArray, List.map_cons, List.map_nil]); first | done | rfl | (simp only [List.length_drop, List.length_take]; rfl)) ?_; (with_reducible refine (icmp_Parse.calls t357 t359 t360 t361 t362 t363 _ A20.out).mono ?_); rintro e w106 ⟨rfl, hb⟩; (try clear A20); refine ⟨_, rfl, ?_⟩; have n0_ := Aside0.mk (blk_below (g := gb356) (o := .cells #[.int .i64 (wrap64 (a0)), .int .i64 (wrap64 (a1)), .int .u32 a2, .string (a3.extract 0 ((ji8) : Int).toNat)] 45 (0, 0)) (by (with_reducible repeat (first | refine blk_drewN ?_ _ | refine blk_drew ?_ | refine blk_alloc ?_ _)); exact BK356.out) hb); have n1_ := Aside0.mk (below_step (by repeat (first | (with_reducible first | exact HB.out | apply below_alloc | apply pw_below_drewN | apply below_drew1 | refine below_set ?_ GE356.out) | exact HB.out)) hb); clear BK356; clear HB; have BK356 := n0_; have HB := n1_; clear n0_ n1_; (try clear hb); (try clear hb2); (try clear hk); (try clear hi)) | ((with_reducible refine gate_dst (N := 15) rfl ?_); (try (refine gate_guard (by rfl) ?_; dsimp only)); refine box_event ?hg (N := 15) ?hd (cs := #[.int .i64 0, .int .i64 0, .int .u32 0, .string (⟨#[]⟩ : ByteArray)]) (t := 45) ?hr ?_; (case hd => rfl); (case hg => rfl); (case hr => first | (go_simp; done) | (go_simp; rfl)); intro gb364 hg w107 hbox hb; have n0_ := Aside0.mk (blk_below (g := gb356) (o := .cells #[.int .i64 (wrap64 (a0)), .int .i64 (wrap64 (a1)), .int .u32 a2, .string (a3.extract 0 ((ji8) : Int).toNat)] 45 (0, 0)) (by (with_reducible repeat (first | refine blk_drewN ?_ _ | refine blk_drew ?_ | refine blk_alloc ?_ _)); exact BK356.out) hb); have n1_ := Aside0.mk (below_step (by repeat (first | (with_reducible first | exact HB.out | apply below_alloc | apply pw_below_drewN | apply below_drew1 | refine below_set ?_ GE356.out) | exact HB.out)) hb); have n2_ := Aside0.mk (hbox); have n3_ := Aside0.mk ((by rw [hg]; exact (below_size (by repeat (first | (with_reducible first | exact HB.out | apply below_alloc | apply pw_below_drewN | apply below_drew1 | refine below_set ?_ GE356.out) | exact HB.out))) : w.heap.size ≤ gb364)); have n4_ := Aside0.mk ((by rw [hg]; exact (below_size (by repeat (first | (with_reducible first | exact HB.out | apply below_alloc | apply pw_below_drewN | apply below_drew1 | refine below_set ?_ GE356.out) | exact HB.out))) : w.heap.size ≤ gb364)); have n5_ := Aside0.mk ((by rw [hg]; exact Nat.ne_of_lt (blk_lt (g := gb356) (o := .cells #[.int .i64 (wrap64 (a0)), .int .i64 (wrap64 (a1)), .int .u32 a2, .string (a3.extract 0 ((ji8) : Int).toNat)] 45 (0, 0)) (by (with_reducible repeat (first | refine blk_drewN ?_ _ | refine blk_drew ?_ | refine blk_alloc ?_ _)); exact BK356.out)) : gb356 ≠ gb364)); have n6_ := Aside0.mk ((by rw [hg]; exact Nat.ne_of_gt (blk_lt (g := gb356) (o := .cells #[.int .i64 (wrap64 (a0)), .int .i64 (wrap64 (a1)), .int .u32 a2, .string (a3.extract 0 ((ji8) : Int).toNat)] 45 (0, 0)) (by (with_reducible repeat (first | refine blk_drewN ?_ _ | refine blk_drew ?_ | refine blk_alloc ?_ _)); exact BK356.out)) : gb364 ≠ gb356)); clear BK356; clear HB; have BK356 := n0_; have HB := n1_; have BK364 := n2_; have GW364 := n3_; have GE364 := n4_; have NB356_364 := n5_; have NB364_356 := n6_; clear n0_ n1_ n2_ n3_ n4_ n5_ n6_; clear hb hbox hg; have hnb108 := NB364_356.out; have hnc108 := NB356_364.out; have hcz109_0 : w107.cell? ⟨gb364, 0, none⟩ = some (.int .i64 0) := (blk_cell BK364.out 0).trans rfl; have hcz109_1 : w107.cell? ⟨gb364, 1, none⟩ = some (.int .i64 0) := (blk_cell BK364.out 1).trans rfl; have hcz109_2 : w107.cell? ⟨gb364, 2, none⟩ = some (.int .u32 0) := (blk_cell BK364.out 2).trans rfl; have hcz109_3 : w107.cell? ⟨gb364, 3, none⟩ = some (.string (⟨#[]⟩ : ByteArray)) := (blk_cell BK364.out 3).trans rfl; have hfz109_0 := blk_frozen BK364.out 0; have hfz109_1 := blk_frozen BK364.out 1; have hfz109_2 := blk_frozen BK364.out 2; have hfz109_3 := blk_frozen BK364.out 3) | ((with_reducible refine gate_dst (N := 63) rfl ?_); (try (refine gate_guard (by rfl) ?_; dsimp only)); refine Kb.Q_conv (Kd.int .u8) 5 rfl (N := 63) rfl 9 38 _ rfl t357 rfl Try.underlying9 Try.underlying38 Try.underlying5 (ok := fun _ => True) trivial (of_decide_eq_true (by first | (with_reducible assumption) | assumption)) ?_; intro v366 w110 ho111 hb hg_ hnew_; clear hg_ hnew_; (first | rw [← Ny365.out] at ho111 | (simp only [Int.reduceToNat] at ho111; rw [← Ny365.out] at ho111)); have n0_ := Aside0.mk (Kb.Q_lower ho111 (below_size (by repeat (first | (with_reducible first | exact HB.out | apply below_alloc | apply pw_below_drewN | apply below_drew1 | refine below_set ?_ GE356.out | refine below_set ?_ GE364.out) | exact HB.out)))); have n1_ := Aside0.mk (blk_below (g := gb356) (o := .cells #[.int .i64 (wrap64 (a0)), .int .i64 (wrap64 (a1)), .int .u32 a2, .string (a3.extract 0 ((ji8) : Int).toNat)] 45 (0, 0)) (by (with_reducible repeat (first | refine blk_drewN ?_ _ | refine blk_drew ?_ | refine blk_alloc ?_ _)); refine blk_far ?_ NB356_364.out _; (with_reducible repeat (first | refine blk_drewN ?_ _ | refine blk_drew ?_ | refine blk_alloc ?_ _)); refine blk_far ?_ NB356_364.out _; (with_reducible repeat (first | refine blk_drewN ?_ _ | refine blk_drew ?_ | refine blk_alloc ?_ _)); refine blk_far ?_ NB356_364.out _; (with_reducible repeat (first | refine blk_drewN ?_ _ | refine blk_drew ?_ | refine blk_alloc ?_ _)); refine blk_far ?_ NB356_364.out _; (with_reducible repeat (first | refine blk_drewN ?_ _ | refine blk_drew ?_ | refine blk_alloc ?_ _)); exact BK356.out) hb); have n2_ := Aside0.mk (blk_below (g := gb364) (o := .cells #[.int .i64 t359, .int .i64 t360, .int .u32 t361, .string t362] 45 (0, 0)) (by (with_reducible repeat (first | refine blk_drewN ?_ _ | refine blk_drew ?_ | refine blk_alloc ?_ _)); refine blk_put (cs := #[.int .i64 t359, .int .i64 t360, .int .u32 t361, .string (⟨#[]⟩ : ByteArray)]) ?_ 3 _ rfl; (with_reducible repeat (first | refine blk_drewN ?_ _ | refine blk_drew ?_ | refine blk_alloc ?_ _)); refine blk_put (cs := #[.int .i64 t359, .int .i64 t360, .int .u32 0, .string (⟨#[]⟩ : ByteArray)]) ?_ 2 _ rfl; (with_reducible repeat (first | refine blk_drewN ?_ _ | refine blk_drew ?_ | refine blk_alloc ?_ _)); refine blk_put (cs := #[.int .i64 t359, .int .i64 0, .int .u32 0, .string (⟨#[]⟩ : ByteArray)]) ?_ 1 _ rfl; (with_reducible repeat (first | refine blk_drewN ?_ _ | refine blk_drew ?_ | refine blk_alloc ?_ _)); refine blk_put (cs := #[.int .i64 0, .int .i64 0, .int .u32 0, .string (⟨#[]⟩ : ByteArray)]) ?_ 0 _ rfl; (with_reducible repeat (first | refine blk_drewN ?_ _ | refine blk_drew ?_ | refine blk_alloc ?_ _)); exact BK364.out) hb); have n3_ := Aside0.mk (below_step (by repeat (first | (with_reducible first | exact HB.out | apply below_alloc | apply pw_below_drewN | apply below_drew1 | refine below_set ?_ GE356.out | refine below_set ?_ GE364.out) | exact HB.out)) hb); clear BK356; clear BK364; clear HB; have HO367 := n0_; have BK356 := n1_; have BK364 := n2_; have HB := n3_; clear n0_ n1_ n2_ n3_; clear hb ho111))
                                          have n0_ := Aside0.mk (Kb.Q_drew HO367.out)
                                          have n1_ := Aside0.mk (blk_drew BK356.out)
                                          have n2_ := Aside0.mk (blk_drew BK364.out)
                                          have n3_ := Aside0.mk (below_drew1 HB.out)
                                          clear HO367
                                          clear BK356
                                          clear BK364
                                          clear HB
                                          have HO367 := n0_
                                          have BK356 := n1_
                                          have BK364 := n2_
                                          have HB := n3_
                                          clear n0_ n1_ n2_ n3_
                                          obtain ⟨Ao113, co113, eo113, _⟩ := Kb.Q_slice HO367.out
                                          (first | subst eo113 | (injection eo113 with f1_ f2_ f3_; have f4_ := f1_.symm; have f5_ := f3_.symm; clear f1_ f2_ f3_; subst f4_; subst f5_))
                                          have p368 : 0 ≤ ((ji24) : Int) := of_decide_eq_true (by first | (with_reducible assumption) | assumption)
                                          have q368 : (ji24) < (y365.length : Int) := of_decide_eq_true (by first | (with_reducible assumption) | assumption)
                                          obtain ⟨ad368, e368, hx368_0⟩ := Kd.at_int (Kb.Q_reads' HO367.out).2.2 (ji24) p368 q368
                                          cases e368
                                          replace p368 := eq_true p368
                                          replace q368 := eq_true q368
                                          have p30 : 0 ≤ ((ji24) : Int) := of_decide_eq_true (by first | (with_reducible assumption) | assumption)
                                          have q30 : ((ji24) : Int) < ((y365.length : Int) : Int) := of_decide_eq_true (by first | (with_reducible assumption) | assumption)
                                          obtain ⟨go30, co30, eo30, gb30, gl30, cl30, HG30⟩ := Kb.Q_form HO367.out (by omega)
                                          (first | cases eo30 | (injection eo30 with ea_ en_ ec_; (first | subst ea_ | (injection ea_ with ea_; subst ea_)); subst ec_; clear en_))
                                          have GB30 := Aside0.mk gb30
                                          have GG30 := Aside0.mk HG30
                                          clear gb30 gl30 HG30
                                          (first | simp only [add_at, Nat.zero_add] at hx368_0 | skip)
                                          obtain ⟨hx30_0, hf30_0⟩ := Kb.Q_cell 0 HO367.out ((ji24) : Int) p30 q30
                                          replace p30 := eq_true p30
                                          replace q30 := eq_true q30
                                          have HP114 := (Kb.Q_putg HO367.out ((ji24) : Int) (of_decide_eq_true (by first | (with_reducible assumption) | assumption)) (by have h_ : ((ji24) : Int) < ((y365.length : Int) : Int) := of_decide_eq_true (by first | (with_reducible assumption) | assumption); first | exact h_ | (have e_ := (Kb.Q_reads' HO367.out).1; omega) | simpa using h_) (Go.bits .xor .u8 (rd y365 (ji24)) (ji29))).1
                                          rw [← Ny369.out] at HP114
                                          have HQ114 := Aside0.mk HP114
                                          clear HP114
                                          refine start_ (n := 20) (S := fun w' => w'.cell? ⟨go30, ((ji24)).toNat, none⟩ = some (.int .u8 (rd y365 (ji24)))) (ds := [19]) #[false, false, false, false, false, false, false, false, false, false, false, false, false, false, false, false, false, false, false, false] (by kernel_rfl) rfl rfl (hx368_0) (fun hHeld => ?_); refine with_tabW weighbridgelaw07_IcmpBack.tab12 weighbridgelaw07_IcmpBack.bits12 (fun HT_ HW_ => ?_)
                                          generalize w110.drew = w112 at HO367 BK356 BK364 HB GG30 HQ114 hf30_0 hx30_0 hx368_0 hHeld ⊢
                                          refine pure_ (i := 0) (N := some 64) (v := ?_) (a' := ?_) #[true, false, false, false, false, false, false, false, false, false, false, false, false, false, false, false, false, false, false, false] rfl rfl (any_of HT_.out (by kernel_rfl)) (fun _ _ _ h => h) (Or.inl ⟨by rfl, ?_⟩) ?_ ?_
                                          rotate_left
                                          · intro w'
                                            go_simp
                                            with_reducible rfl
                                          rotate_left
                                          · simp only [Act.put, List.setIfInBounds_toArray, List.set_cons_zero, List.set_cons_succ, i64_w, i32_w]
                                            rfl
                                          refine pure_ (i := 1) (N := some 65) (v := ?_) (a' := ?_) #[true, true, false, false, false, false, false, false, false, false, false, false, false, false, false, false, false, false, false, false] rfl rfl (any_of HT_.out (by kernel_rfl)) (fun _ _ _ h => h) (Or.inl ⟨by rfl, ?_⟩) ?_ ?_
                                          rotate_left
                                          · intro w'
                                            go_simp
                                            with_reducible rfl
                                          rotate_left
                                          · simp only [Act.put, List.setIfInBounds_toArray, List.set_cons_zero, List.set_cons_succ, i64_w, i32_w]
                                            rfl
                                          refine pure_ (i := 2) (N := some 66) (v := ?_) (a' := ?_) #[true, true, true, false, false, false, false, false, false, false, false, false, false, false, false, false, false, false, false, false] rfl rfl (any_of HT_.out (by kernel_rfl)) (fun _ _ _ h => h) (Or.inl ⟨by rfl, ?_⟩) ?_ ?_
                                          rotate_left
                                          · intro w'
                                            go_simp
                                            with_reducible rfl
                                          rotate_left
                                          · simp only [Act.put, List.setIfInBounds_toArray, List.set_cons_zero, List.set_cons_succ, i64_w, i32_w]
                                            rfl
                                          refine pure_ (i := 3) (N := some 67) (v := ?_) (a' := ?_) #[true, true, true, true, false, false, false, false, false, false, false, false, false, false, false, false, false, false, false, false] rfl rfl (any_of HT_.out (by kernel_rfl)) (fun _ _ _ h => h) (Or.inl ⟨by rfl, ?_⟩) ?_ ?_
                                          rotate_left
                                          · intro w'
                                            go_simp
                                            with_reducible rfl
                                          rotate_left
                                          · simp only [Act.put, List.setIfInBounds_toArray, List.set_cons_zero, List.set_cons_succ, i64_w, i32_w]
                                            rfl
                                          refine pure_ (i := 4) (N := some 68) (v := ?_) (a' := ?_) #[true, true, true, true, true, false, false, false, false, false, false, false, false, false, false, false, false, false, false, false] rfl rfl (any_of HT_.out (by kernel_rfl)) (fun _ _ _ h => h) (Or.inl ⟨by rfl, ?_⟩) ?_ ?_
                                          rotate_left
                                          · intro w'
                                            go_simp
                                            with_reducible rfl
                                          rotate_left
                                          · simp only [Act.put, List.setIfInBounds_toArray, List.set_cons_zero, List.set_cons_succ, i64_w, i32_w]
                                            rfl
                                          refine pure_ (i := 5) (N := some 69) (v := ?_) (a' := ?_) #[true, true, true, true, true, true, false, false, false, false, false, false, false, false, false, false, false, false, false, false] rfl rfl (any_of HT_.out (by kernel_rfl)) (fun _ _ _ h => h) (Or.inl ⟨by rfl, ?_⟩) ?_ ?_
                                          rotate_left
                                          · intro w'
                                            go_simp
                                            with_reducible rfl
                                          rotate_left
                                          · simp only [Act.put, List.setIfInBounds_toArray, List.set_cons_zero, List.set_cons_succ, i64_w, i32_w]
                                            rfl
                                          refine pure_ (i := 6) (N := some 70) (v := ?_) (a' := ?_) #[true, true, true, true, true, true, true, false, false, false, false, false, false, false, false, false, false, false, false, false] rfl rfl (any_of HT_.out (by kernel_rfl)) (fun _ _ _ h => h) (Or.inl ⟨by rfl, ?_⟩) ?_ ?_
                                          rotate_left
                                          · intro w'
                                            go_simp
                                            with_reducible rfl
                                          rotate_left
                                          · simp only [Act.put, List.setIfInBounds_toArray, List.set_cons_zero, List.set_cons_succ, i64_w, i32_w]
                                            rfl
                                          refine pure_ (i := 7) (N := some 71) (v := ?_) (a' := ?_) #[true, true, true, true, true, true, true, true, false, false, false, false, false, false, false, false, false, false, false, false] rfl rfl (any_of HT_.out (by kernel_rfl)) (fun _ _ _ h => h) (Or.inl ⟨by rfl, ?_⟩) ?_ ?_
                                          rotate_left
                                          · intro w'
                                            go_simp
                                            with_reducible rfl
                                          rotate_left
                                          · simp only [Act.put, List.setIfInBounds_toArray, List.set_cons_zero, List.set_cons_succ, i64_w, i32_w]
                                            rfl
                                          refine pure_ (i := 8) (N := some 72) (v := ?_) (a' := ?_) #[true, true, true, true, true, true, true, true, true, false, false, false, false, false, false, false, false, false, false, false] rfl rfl (any_of HT_.out (by kernel_rfl)) (fun _ _ _ h => h) (Or.inl ⟨by rfl, ?_⟩) ?_ ?_
                                          rotate_left
                                          · intro w'
                                            go_simp
                                            with_reducible rfl
                                          rotate_left
                                          · simp only [Act.put, List.setIfInBounds_toArray, List.set_cons_zero, List.set_cons_succ, i64_w, i32_w]
                                            rfl
                                          refine pure_ (i := 9) (N := some 73) (v := ?_) (a' := ?_) #[true, true, true, true, true, true, true, true, true, true, false, false, false, false, false, false, false, false, false, false] rfl rfl (any_of HT_.out (by kernel_rfl)) (fun _ _ _ h => h) (Or.inl ⟨by rfl, ?_⟩) ?_ ?_
                                          rotate_left
                                          · intro w'
                                            go_simp
                                            with_reducible rfl
                                          rotate_left
                                          · simp only [Act.put, List.setIfInBounds_toArray, List.set_cons_zero, List.set_cons_succ, i64_w, i32_w]
                                            rfl
                                          refine pure_ (i := 10) (N := some 74) (v := ?_) (a' := ?_) #[true, true, true, true, true, true, true, true, true, true, true, false, false, false, false, false, false, false, false, false] rfl rfl (any_of HT_.out (by kernel_rfl)) (fun _ _ _ h => h) (Or.inl ⟨by rfl, ?_⟩) ?_ ?_
                                          rotate_left
                                          · intro w'
                                            go_simp
                                            with_reducible rfl
                                          rotate_left
                                          · simp only [Act.put, List.setIfInBounds_toArray, List.set_cons_zero, List.set_cons_succ, i64_w, i32_w]
                                            rfl
                                          refine pure_ (i := 11) (N := some 75) (v := ?_) (a' := ?_) #[true, true, true, true, true, true, true, true, true, true, true, true, false, false, false, false, false, false, false, false] rfl rfl (any_of HT_.out (by kernel_rfl)) (fun _ _ _ h => h) (Or.inl ⟨by rfl, ?_⟩) ?_ ?_
                                          rotate_left
                                          · intro w'
                                            go_simp
                                            with_reducible rfl
                                          rotate_left
                                          · simp only [Act.put, List.setIfInBounds_toArray, List.set_cons_zero, List.set_cons_succ, i64_w, i32_w]
                                            rfl
                                          refine pure_ (i := 12) (N := some 76) (v := ?_) (a' := ?_) #[true, true, true, true, true, true, true, true, true, true, true, true, true, false, false, false, false, false, false, false] rfl rfl (any_of HT_.out (by kernel_rfl)) (fun _ _ _ h => h) (Or.inl ⟨by rfl, ?_⟩) ?_ ?_
                                          rotate_left
                                          · intro w'
                                            go_simp
                                            with_reducible rfl
                                          rotate_left
                                          · simp only [Act.put, List.setIfInBounds_toArray, List.set_cons_zero, List.set_cons_succ, i64_w, i32_w]
                                            rfl
                                          refine pure_ (i := 14) (N := some 78) (v := ?_) (a' := ?_) #[true, true, true, true, true, true, true, true, true, true, true, true, true, false, true, false, false, false, false, false] rfl rfl (any_of HT_.out (by kernel_rfl)) (fun _ _ _ h => h) (Or.inl ⟨by rfl, ?_⟩) ?_ ?_
                                          rotate_left
                                          · intro w'
                                            go_simp
                                            with_reducible rfl
                                          rotate_left
                                          · simp only [Act.put, List.setIfInBounds_toArray, List.set_cons_zero, List.set_cons_succ, i64_w, i32_w]
                                            rfl
                                          refine pure_ (i := 15) (N := some 79) (v := ?_) (a' := ?_) #[true, true, true, true, true, true, true, true, true, true, true, true, true, false, true, true, false, false, false, false] rfl rfl (any_of HT_.out (by kernel_rfl)) (fun _ _ _ h => h) (Or.inl ⟨by rfl, ?_⟩) ?_ ?_
                                          rotate_left
                                          · intro w'
                                            go_simp
                                            with_reducible rfl
                                          rotate_left
                                          · simp only [Act.put, List.setIfInBounds_toArray, List.set_cons_zero, List.set_cons_succ, i64_w, i32_w]
                                            rfl
                                          refine pure_ (i := 16) (N := some 80) (v := ?_) (a' := ?_) #[true, true, true, true, true, true, true, true, true, true, true, true, true, false, true, true, true, false, false, false] rfl rfl (any_of HT_.out (by kernel_rfl)) (fun _ _ _ h => h) (Or.inl ⟨by rfl, ?_⟩) ?_ ?_
                                          rotate_left
                                          · intro w'
                                            go_simp
                                            with_reducible rfl
                                          rotate_left
                                          · simp only [Act.put, List.setIfInBounds_toArray, List.set_cons_zero, List.set_cons_succ, i64_w, i32_w]
                                            rfl
                                          refine take_ (i := 13) (N := some 77) (v := ?_) (a' := ?_) #[true, true, true, true, true, true, true, true, true, true, true, true, true, true, true, true, true, false, false, false] rfl rfl (take_ofW HT_.out HW_.out (by kernel_rfl)) (fun _ _ _ h => h) (Or.inl ⟨by rfl, ?_⟩) hHeld ?_ ?_
                                          rotate_left
                                          · intro w' s0
                                            go_simp
                                            with_reducible rfl
                                          rotate_left
                                          · simp only [Act.put, List.setIfInBounds_toArray, List.set_cons_zero, List.set_cons_succ, i64_w, i32_w]
                                            rfl
                                          refine pure_ (i := 17) (N := some 81) (v := ?_) (a' := ?_) #[true, true, true, true, true, true, true, true, true, true, true, true, true, true, true, true, true, true, false, false] rfl rfl (any_of HT_.out (by kernel_rfl)) (fun _ _ _ h => h) (Or.inl ⟨by rfl, ?_⟩) ?_ ?_
                                          rotate_left
                                          · intro w'
                                            go_simp
                                            with_reducible rfl
                                          rotate_left
                                          · simp only [Act.put, List.setIfInBounds_toArray, List.set_cons_zero, List.set_cons_succ, i64_w, i32_w]
                                            rfl
                                          refine pure_ (i := 18) (N := some 82) (v := ?_) (a' := ?_) #[true, true, true, true, true, true, true, true, true, true, true, true, true, true, true, true, true, true, true, false] rfl rfl (any_of HT_.out (by kernel_rfl)) (fun _ _ _ h => h) (Or.inl ⟨by rfl, ?_⟩) ?_ ?_
                                          rotate_left
                                          · intro w'
                                            go_simp
                                            with_reducible rfl
                                          rotate_left
                                          · simp only [Act.put, List.setIfInBounds_toArray, List.set_cons_zero, List.set_cons_succ, i64_w, i32_w]
                                            rfl
                                          refine last_ (i := 19) (N := none) #[true, true, true, true, true, true, true, true, true, true, true, true, true, true, true, true, true, true, true, true] rfl rfl (one_of HT_.out (by kernel_rfl)) (by decide) (fun K hK => ?_)
                                          refine skip_ (w1 := ?_) (by rfl) rfl ?_ ?_
                                          rotate_left
                                          · go_simp
                                            rfl
                                          refine hK.out _ _ ?_
                                          clear hK K
                                          refine done_ (done_of HT_.out (by kernel_rfl)) ?_
                                          have n0_ : Aside0 (Kb.Q (Kd.int .u8) 5 (w112.setCell ⟨go30, ((ji24) : Int).toNat, none⟩ (.int .u8 (Go.bits .xor .u8 (rd y365 (ji24)) (ji29)))) w.heap.size (fun _ => True) (.slice (some ⟨go30, 0, none⟩) y365.length co113) y369) := ⟨by (with_reducible repeat (first | apply Kb.Q_alloc | apply Kb.Q_drewN | apply Kb.Q_drew)); exact HQ114.out⟩
                                          have n1_ : Aside0 ((w112.setCell ⟨go30, ((ji24) : Int).toNat, none⟩ (.int .u8 (Go.bits .xor .u8 (rd y365 (ji24)) (ji29)))).heap[gb356]? = some (.cells #[.int .i64 (wrap64 (a0)), .int .i64 (wrap64 (a1)), .int .u32 a2, .string (a3.extract 0 ((ji8) : Int).toNat)] 45 (0, 0))) := ⟨by (with_reducible repeat (first | refine blk_drewN ?_ _ | refine blk_drew ?_ | refine blk_alloc ?_ _)); refine blk_far ?_ (by have h_ := Kb.Q_ne HO367.out BK356.out (by decide); intro e_; exact h_ (by rw [e_]; rfl)) _; (with_reducible repeat (first | refine blk_drewN ?_ _ | refine blk_drew ?_ | refine blk_alloc ?_ _)); exact BK356.out⟩
                                          have n2_ : Aside0 ((w112.setCell ⟨go30, ((ji24) : Int).toNat, none⟩ (.int .u8 (Go.bits .xor .u8 (rd y365 (ji24)) (ji29)))).heap[gb364]? = some (.cells #[.int .i64 t359, .int .i64 t360, .int .u32 t361, .string t362] 45 (0, 0))) := ⟨by (with_reducible repeat (first | refine blk_drewN ?_ _ | refine blk_drew ?_ | refine blk_alloc ?_ _)); refine blk_far ?_ (by have h_ := Kb.Q_ne HO367.out BK364.out (by decide); intro e_; exact h_ (by rw [e_]; rfl)) _; (with_reducible repeat (first | refine blk_drewN ?_ _ | refine blk_drew ?_ | refine blk_alloc ?_ _)); exact BK364.out⟩
                                          have n3_ : Aside0 (Below w.heap.size w (w112.setCell ⟨go30, ((ji24) : Int).toNat, none⟩ (.int .u8 (Go.bits .xor .u8 (rd y365 (ji24)) (ji29))))) := ⟨by repeat (first | (with_reducible first | exact HB.out | apply below_alloc | apply pw_below_drewN | apply below_drew1 | refine below_set ?_ GB30.out | refine below_set ?_ GE356.out | refine below_set ?_ GE364.out) | exact HB.out)⟩
                                          (try clear HO367)
                                          (try clear BK356)
                                          (try clear BK364)
                                          (try clear HB)
                                          generalize (w112.setCell ⟨go30, ((ji24) : Int).toNat, none⟩ (.int .u8 (Go.bits .xor .u8 (rd y365 (ji24)) (ji29)))) = w115 at n0_ n1_ n2_ n3_ ⊢
                                          have HO367 := n0_
                                          have BK356 := n1_
                                          have BK364 := n2_
                                          have HB := n3_
                                          clear n0_ n1_ n2_ n3_
                                          have hcv116 := Kb.Q_string (P := Try.prog) Try.underlying38 Try.underlying5 Try.underlying9 (HO367.out)
                                          try go_wp2_with (first | ((with_reducible refine gate_callee (f := 29) rfl ?_); refine goesL_ (some 86) rfl rfl Try.func29 (by kernel_rfl) rfl #[.string (strOfNums y369)] rfl (by (try simp only [List.map_toArray, List.map_cons, List.map_nil]); first | done | rfl | (simp only [List.length_drop, List.length_take]; rfl)) ?_; (with_reducible refine (icmp_Parse.calls (strOfNums y369) t370 t371 t372 t373 t374 _ A31.out).mono ?_); rintro e w117 ⟨rfl, hb⟩; (try clear A31); refine ⟨_, rfl, ?_⟩; have n0_ := Aside0.mk (Kb.Q_below (by (with_reducible repeat (first | apply Kb.Q_alloc | apply Kb.Q_drewN | apply Kb.Q_drew)); exact HO367.out) hb); have n1_ := Aside0.mk (blk_below (g := gb356) (o := .cells #[.int .i64 (wrap64 (a0)), .int .i64 (wrap64 (a1)), .int .u32 a2, .string (a3.extract 0 ((ji8) : Int).toNat)] 45 (0, 0)) (by (with_reducible repeat (first | refine blk_drewN ?_ _ | refine blk_drew ?_ | refine blk_alloc ?_ _)); exact BK356.out) hb); have n2_ := Aside0.mk (blk_below (g := gb364) (o := .cells #[.int .i64 t359, .int .i64 t360, .int .u32 t361, .string t362] 45 (0, 0)) (by (with_reducible repeat (first | refine blk_drewN ?_ _ | refine blk_drew ?_ | refine blk_alloc ?_ _)); exact BK364.out) hb); have n3_ := Aside0.mk (below_step (by repeat (first | (with_reducible first | exact HB.out | apply below_alloc | apply pw_below_drewN | apply below_drew1 | refine below_set ?_ GE356.out | refine below_set ?_ GE364.out) | exact HB.out)) hb); clear HO367; clear BK356; clear BK364; clear HB; have HO367 := n0_; have BK356 := n1_; have BK364 := n2_; have HB := n3_; clear n0_ n1_ n2_ n3_; (try clear hb); (try clear hb2); (try clear hk); (try clear hi)) | ((with_reducible refine gate_dst (N := 18) rfl ?_); (try (refine gate_guard (by rfl) ?_; dsimp only)); refine box_event ?hg (N := 18) ?hd (cs := #[.int .i64 0, .int .i64 0, .int .u32 0, .string (⟨#[]⟩ : ByteArray)]) (t := 45) ?hr ?_; (case hd => rfl); (case hg => rfl); (case hr => first | (go_simp; done) | (go_simp; rfl)); intro gb375 hg w118 hbox hb; have n0_ := Aside0.mk (Kb.Q_below (by (with_reducible repeat (first | apply Kb.Q_alloc | apply Kb.Q_drewN | apply Kb.Q_drew)); exact HO367.out) hb); have n1_ := Aside0.mk (blk_below (g := gb356) (o := .cells #[.int .i64 (wrap64 (a0)), .int .i64 (wrap64 (a1)), .int .u32 a2, .string (a3.extract 0 ((ji8) : Int).toNat)] 45 (0, 0)) (by (with_reducible repeat (first | refine blk_drewN ?_ _ | refine blk_drew ?_ | refine blk_alloc ?_ _)); exact BK356.out) hb); have n2_ := Aside0.mk (blk_below (g := gb364) (o := .cells #[.int .i64 t359, .int .i64 t360, .int .u32 t361, .string t362] 45 (0, 0)) (by (with_reducible repeat (first | refine blk_drewN ?_ _ | refine blk_drew ?_ | refine blk_alloc ?_ _)); exact BK364.out) hb); have n3_ := Aside0.mk (below_step (by repeat (first | (with_reducible first | exact HB.out | apply below_alloc | apply pw_below_drewN | apply below_drew1 | refine below_set ?_ GE356.out | refine below_set ?_ GE364.out) | exact HB.out)) hb); have n4_ := Aside0.mk (hbox); have n5_ := Aside0.mk ((by rw [hg]; exact (below_size (by repeat (first | (with_reducible first | exact HB.out | apply below_alloc | apply pw_below_drewN | apply below_drew1 | refine below_set ?_ GE356.out | refine below_set ?_ GE364.out) | exact HB.out))) : w.heap.size ≤ gb375)); have n6_ := Aside0.mk ((by rw [hg]; exact (below_size (by repeat (first | (with_reducible first | exact HB.out | apply below_alloc | apply pw_below_drewN | apply below_drew1 | refine below_set ?_ GE356.out | refine below_set ?_ GE364.out) | exact HB.out))) : w.heap.size ≤ gb375)); have n7_ := Aside0.mk ((by rw [hg]; exact Nat.ne_of_lt (blk_lt (g := gb356) (o := .cells #[.int .i64 (wrap64 (a0)), .int .i64 (wrap64 (a1)), .int .u32 a2, .string (a3.extract 0 ((ji8) : Int).toNat)] 45 (0, 0)) (by (with_reducible repeat (first | refine blk_drewN ?_ _ | refine blk_drew ?_ | refine blk_alloc ?_ _)); exact BK356.out)) : gb356 ≠ gb375)); have n8_ := Aside0.mk ((by rw [hg]; exact Nat.ne_of_gt (blk_lt (g := gb356) (o := .cells #[.int .i64 (wrap64 (a0)), .int .i64 (wrap64 (a1)), .int .u32 a2, .string (a3.extract 0 ((ji8) : Int).toNat)] 45 (0, 0)) (by (with_reducible repeat (first | refine blk_drewN ?_ _ | refine blk_drew ?_ | refine blk_alloc ?_ _)); exact BK356.out)) : gb375 ≠ gb356)); have n9_ := Aside0.mk ((by rw [hg]; exact Nat.ne_of_lt (blk_lt (g := gb364) (o := .cells #[.int .i64 t359, .int .i64 t360, .int .u32 t361, .string t362] 45 (0, 0)) (by (with_reducible repeat (first | refine blk_drewN ?_ _ | refine blk_drew ?_ | refine blk_alloc ?_ _)); exact BK364.out)) : gb364 ≠ gb375)); have n10_ := Aside0.mk ((by rw [hg]; exact Nat.ne_of_gt (blk_lt (g := gb364) (o := .cells #[.int .i64 t359, .int .i64 t360, .int .u32 t361, .string t362] 45 (0, 0)) (by (with_reducible repeat (first | refine blk_drewN ?_ _ | refine blk_drew ?_ | refine blk_alloc ?_ _)); exact BK364.out)) : gb375 ≠ gb364)); clear HO367; clear BK356; clear BK364; clear HB; have HO367 := n0_; have BK356 := n1_; have BK364 := n2_; have HB := n3_; have BK375 := n4_; have GW375 := n5_; have GE375 := n6_; have NB356_375 := n7_; have NB375_356 := n8_; have NB364_375 := n9_; have NB375_364 := n10_; clear n0_ n1_ n2_ n3_ n4_ n5_ n6_ n7_ n8_ n9_ n10_; clear hb hbox hg; have hnb119 := NB375_356.out; have hnc119 := NB356_375.out; have hnb120 := NB375_364.out; have hnc120 := NB364_375.out; have hcz121_0 : w118.cell? ⟨gb375, 0, none⟩ = some (.int .i64 0) := (blk_cell BK375.out 0).trans rfl; have hcz121_1 : w118.cell? ⟨gb375, 1, none⟩ = some (.int .i64 0) := (blk_cell BK375.out 1).trans rfl; have hcz121_2 : w118.cell? ⟨gb375, 2, none⟩ = some (.int .u32 0) := (blk_cell BK375.out 2).trans rfl; have hcz121_3 : w118.cell? ⟨gb375, 3, none⟩ = some (.string (⟨#[]⟩ : ByteArray)) := (blk_cell BK375.out 3).trans rfl; have hfz121_0 := blk_frozen BK375.out 0; have hfz121_1 := blk_frozen BK375.out 1; have hfz121_2 := blk_frozen BK375.out 2; have hfz121_3 := blk_frozen BK375.out 3; have hcz122_0 : w118.cell? ⟨gb356, 0, none⟩ = some (.int .i64 (wrap64 (a0))) := (blk_cell BK356.out 0).trans rfl; have hcz122_1 : w118.cell? ⟨gb356, 1, none⟩ = some (.int .i64 (wrap64 (a1))) := (blk_cell BK356.out 1).trans rfl; have hcz122_2 : w118.cell? ⟨gb356, 2, none⟩ = some (.int .u32 a2) := (blk_cell BK356.out 2).trans rfl; have hcz122_3 : w118.cell? ⟨gb356, 3, none⟩ = some (.string (a3.extract 0 ((ji8) : Int).toNat)) := (blk_cell BK356.out 3).trans rfl; have hfz122_0 := blk_frozen BK356.out 0; have hfz122_1 := blk_frozen BK356.out 1; have hfz122_2 := blk_frozen BK356.out 2; have hfz122_3 := blk_frozen BK356.out 3) | ((with_reducible refine gate_callee (f := 25) rfl ?_); refine goesL_ (some 91) rfl rfl Try.func25 (by kernel_rfl) rfl #[.agg #[.int .i64 (wrap64 (a0)), .int .i64 (wrap64 (a1)), .int .u32 a2, .string (a3.extract 0 ((ji8) : Int).toNat)]] rfl (by (try simp only [List.map_toArray, List.map_cons, List.map_nil]); first | done | (simp only [hji8]; rfl) | rfl | (simp only [List.length_drop, List.length_take]; rfl)) ?_; (with_reducible refine (icmp_MTU.calls (wrap64 (a0)) (wrap64 (a1)) a2 (a3.extract 0 ((ji8) : Int).toNat) t376 false _ A32.out).mono ?_); rintro e w123 ⟨rfl, hb⟩; (try clear A32); refine ⟨_, rfl, ?_⟩; have n0_ := Aside0.mk (Kb.Q_below (by (with_reducible repeat (first | apply Kb.Q_alloc | apply Kb.Q_drewN | apply Kb.Q_drew)); exact (Kb.Q_mono (Kb.Q_far (p := ⟨gb375, 3, none⟩) (Kb.Q_far (p := ⟨gb375, 2, none⟩) (Kb.Q_far (p := ⟨gb375, 1, none⟩) (Kb.Q_far (p := ⟨gb375, 0, none⟩) (Kb.Q_types HO367.out BK375.out (by decide)) (fun _ hk => hk.2) (.int .i64 t370)) (fun _ hk => hk.2) (.int .i64 t371)) (fun _ hk => hk.2) (.int .u32 t372)) (fun _ hk => hk.2) (.string t373)) (fun _ h_ => h_.1))) hb); have n1_ := Aside0.mk (blk_below (g := gb356) (o := .cells #[.int .i64 (wrap64 (a0)), .int .i64 (wrap64 (a1)), .int .u32 a2, .string (a3.extract 0 ((ji8) : Int).toNat)] 45 (0, 0)) (by (with_reducible repeat (first | refine blk_drewN ?_ _ | refine blk_drew ?_ | refine blk_alloc ?_ _)); refine blk_far ?_ NB356_375.out _; (with_reducible repeat (first | refine blk_drewN ?_ _ | refine blk_drew ?_ | refine blk_alloc ?_ _)); refine blk_far ?_ NB356_375.out _; (with_reducible repeat (first | refine blk_drewN ?_ _ | refine blk_drew ?_ | refine blk_alloc ?_ _)); refine blk_far ?_ NB356_375.out _; (with_reducible repeat (first | refine blk_drewN ?_ _ | refine blk_drew ?_ | refine blk_alloc ?_ _)); refine blk_far ?_ NB356_375.out _; (with_reducible repeat (first | refine blk_drewN ?_ _ | refine blk_drew ?_ | refine blk_alloc ?_ _)); exact BK356.out) hb); have n2_ := Aside0.mk (blk_below (g := gb364) (o := .cells #[.int .i64 t359, .int .i64 t360, .int .u32 t361, .string t362] 45 (0, 0)) (by (with_reducible repeat (first | refine blk_drewN ?_ _ | refine blk_drew ?_ | refine blk_alloc ?_ _)); refine blk_far ?_ NB364_375.out _; (with_reducible repeat (first | refine blk_drewN ?_ _ | refine blk_drew ?_ | refine blk_alloc ?_ _)); refine blk_far ?_ NB364_375.out _; (with_reducible repeat (first | refine blk_drewN ?_ _ | refine blk_drew ?_ | refine blk_alloc ?_ _)); refine blk_far ?_ NB364_375.out _; (with_reducible repeat (first | refine blk_drewN ?_ _ | refine blk_drew ?_ | refine blk_alloc ?_ _)); refine blk_far ?_ NB364_375.out _; (with_reducible repeat (first | refine blk_drewN ?_ _ | refine blk_drew ?_ | refine blk_alloc ?_ _)); exact BK364.out) hb); have n3_ := Aside0.mk (blk_below (g := gb375) (o := .cells #[.int .i64 t370, .int .i64 t371, .int .u32 t372, .string t373] 45 (0, 0)) (by (with_reducible repeat (first | refine blk_drewN ?_ _ | refine blk_drew ?_ | refine blk_alloc ?_ _)); refine blk_put (cs := #[.int .i64 t370, .int .i64 t371, .int .u32 t372, .string (⟨#[]⟩ : ByteArray)]) ?_ 3 _ rfl; (with_reducible repeat (first | refine blk_drewN ?_ _ | refine blk_drew ?_ | refine blk_alloc ?_ _)); refine blk_put (cs := #[.int .i64 t370, .int .i64 t371, .int .u32 0, .string (⟨#[]⟩ : ByteArray)]) ?_ 2 _ rfl; (with_reducible repeat (first | refine blk_drewN ?_ _ | refine blk_drew ?_ | refine blk_alloc ?_ _)); refine blk_put (cs := #[.int .i64 t370, .int .i64 0, .int .u32 0, .string (⟨#[]⟩ : ByteArray)]) ?_ 1 _ rfl; (with_reducible repeat (first | refine blk_drewN ?_ _ | refine blk_drew ?_ | refine blk_alloc ?_ _)); refine blk_put (cs := #[.int .i64 0, .int .i64 0, .int .u32 0, .string (⟨#[]⟩ : ByteArray)]) ?_ 0 _ rfl; (with_reducible repeat (first | refine blk_drewN ?_ _ | refine blk_drew ?_ | refine blk_alloc ?_ _)); exact BK375.out) hb); have n4_ := Aside0.mk (below_step (by repeat (first | (with_reducible first | exact HB.out | apply below_alloc | apply pw_below_drewN | apply below_drew1 | refine below_set ?_ GE356.out | refine below_set ?_ GE364.out | refine below_set ?_ GE375.out) | exact HB.out)) hb); clear HO367; clear BK356; clear BK364; clear BK375; clear HB; have HO367 := n0_; have BK356 := n1_; have BK364 := n2_; have BK375 := n3_; have HB := n4_; clear n0_ n1_ n2_ n3_ n4_; (try clear hb); (try clear hb2); (try clear hk); (try clear hi); have hcz124_0 : w123.cell? ⟨gb364, 0, none⟩ = some (.int .i64 t359) := (blk_cell BK364.out 0).trans rfl; have hcz124_1 : w123.cell? ⟨gb364, 1, none⟩ = some (.int .i64 t360) := (blk_cell BK364.out 1).trans rfl; have hcz124_2 : w123.cell? ⟨gb364, 2, none⟩ = some (.int .u32 t361) := (blk_cell BK364.out 2).trans rfl; have hcz124_3 : w123.cell? ⟨gb364, 3, none⟩ = some (.string t362) := (blk_cell BK364.out 3).trans rfl; have hfz124_0 := blk_frozen BK364.out 0; have hfz124_1 := blk_frozen BK364.out 1; have hfz124_2 := blk_frozen BK364.out 2; have hfz124_3 := blk_frozen BK364.out 3; have hcz125_0 : w123.cell? ⟨gb356, 0, none⟩ = some (.int .i64 (wrap64 (a0))) := (blk_cell BK356.out 0).trans rfl; have hcz125_1 : w123.cell? ⟨gb356, 1, none⟩ = some (.int .i64 (wrap64 (a1))) := (blk_cell BK356.out 1).trans rfl; have hcz125_2 : w123.cell? ⟨gb356, 2, none⟩ = some (.int .u32 a2) := (blk_cell BK356.out 2).trans rfl; have hcz125_3 : w123.cell? ⟨gb356, 3, none⟩ = some (.string (a3.extract 0 ((ji8) : Int).toNat)) := (blk_cell BK356.out 3).trans rfl; have hfz125_0 := blk_frozen BK356.out 0; have hfz125_1 := blk_frozen BK356.out 1; have hfz125_2 := blk_frozen BK356.out 2; have hfz125_3 := blk_frozen BK356.out 3; have hcz126_0 : w123.cell? ⟨gb375, 0, none⟩ = some (.int .i64 t370) := (blk_cell BK375.out 0).trans rfl; have hcz126_1 : w123.cell? ⟨gb375, 1, none⟩ = some (.int .i64 t371) := (blk_cell BK375.out 1).trans rfl; have hcz126_2 : w123.cell? ⟨gb375, 2, none⟩ = some (.int .u32 t372) := (blk_cell BK375.out 2).trans rfl; have hcz126_3 : w123.cell? ⟨gb375, 3, none⟩ = some (.string t373) := (blk_cell BK375.out 3).trans rfl; have hfz126_0 := blk_frozen BK375.out 0; have hfz126_1 := blk_frozen BK375.out 1; have hfz126_2 := blk_frozen BK375.out 2; have hfz126_3 := blk_frozen BK375.out 3))
                                          go_ret
                                          exact ⟨by first | rfl | (simp [errW_none, errW_some] <;> rfl) | (simp only [← hji8, ← hji24, ← hji27, ← hji29]; first | rfl | (simp [errW_none, errW_some] <;> rfl)) | (simp [*, errW_none, errW_some] <;> rfl), by repeat (first | (with_reducible first | exact HB.out | apply below_alloc | apply pw_below_drewN | apply below_drew1 | refine below_set ?_ GE356.out | refine below_set ?_ GE364.out | refine below_set ?_ GE375.out) | exact HB.out)⟩
                                      · rw [if_neg c83] at H
                                        have c83b0 : (t377 == false) = false := by simpa using c83
                                        (try (have c83b1 : decide (t377 = false) = false := by simpa using c83))
                                        (try (have c83b2 : (t377 == false) = false := by simpa using c83))
                                        (try (have c83b3 : ¬ (t377 = false) := by simpa using c83))
                                        clear c83
                                        exact absurd ((Option.some.inj H).trans hr_) (by decide)
                                  · rw [if_neg c37] at H
                                    have c37b0 : (t370 == 0 && (t371 == 0 && (t372 == 0 && (t373.toList == ([] : List UInt8))))) = false := by simpa using c37
                                    (try (have c37bq : (t370 = 0 ∧ (t371 = 0 ∧ (t372 = 0 ∧ (t373.toList = ([] : List UInt8))))) = False := eq_false (fun h_ => by have e_ : (t370 == 0 && (t371 == 0 && (t372 == 0 && (t373.toList == ([] : List UInt8))))) = true := (by simpa using h_); rw [e_] at c37b0; cases c37b0)))
                                    (try (have c37b1 : decide (t370 = 0 && (t371 == 0 && (t372 == 0 && (t373.toList == ([] : List UInt8))))) = false := by simpa using c37))
                                    (try (have c37b2 : (t370 == 0 && (t371 == 0 && (t372 == 0 && (t373.toList == ([] : List UInt8))))) = false := by simpa using c37))
                                    (try (have c37b3 : ¬ (t370 = 0 && (t371 == 0 && (t372 == 0 && (t373.toList == ([] : List UInt8))))) := by simpa using c37))
                                    clear c37
                                    exact absurd ((Option.some.inj H).trans hr_) (by decide)
                                · rw [if_neg c36] at H
                                  have c36b0 : (t374 == 7) = false := beq_eq_false_iff_ne.mpr c36
                                  have c36b1 : (t374 != 7) = true := bne_iff_ne.mpr c36
                                  exact absurd ((Option.some.inj H).trans hr_) (by decide)
                              · rw [if_neg c35] at H
                                have c35b0 : (t363 == 0) = false := beq_eq_false_iff_ne.mpr c35
                                have c35b1 : (t363 != 0) = true := bne_iff_ne.mpr c35
                                exact absurd ((Option.some.inj H).trans hr_) (by decide)
                            · rw [if_neg c34] at H
                              have c34b0 : (t359 == (wrap64 (a0)) && (t360 == (wrap64 (a1)) && (t361 == a2 && (t362.toList == (a3.extract 0 ((ji8) : Int).toNat).toList)))) = false := by simpa using c34
                              (try (have c34b1 : decide (t359 = (wrap64 (a0)) && (t360 == (wrap64 (a1)) && (t361 == a2 && (t362.toList == (a3.extract 0 ((ji8) : Int).toNat).toList)))) = false := by simpa using c34))
                              (try (have c34b2 : (t359 == (wrap64 (a0)) && (t360 == (wrap64 (a1)) && (t361 == a2 && (t362.toList == (a3.extract 0 ((ji8) : Int).toNat).toList)))) = false := by simpa using c34))
                              (try (have c34b3 : ¬ (t359 = (wrap64 (a0)) && (t360 == (wrap64 (a1)) && (t361 == a2 && (t362.toList == (a3.extract 0 ((ji8) : Int).toNat).toList)))) := by simpa using c34))
                              clear c34
                              exact absurd ((Option.some.inj H).trans hr_) (by decide)
                        · rw [if_neg c28] at H
                          exact absurd H (by simp)
                      · rw [if_neg c26] at H
                        exact absurd H (by simp)
                    · rw [if_neg c25] at H
                      exact absurd H (by simp)
                · rw [if_neg c22] at H
                  exact absurd H (by simp)
              · exact absurd hc_ c21
      · rw [if_neg c10] at H
        exact absurd H (by simp)
    · rw [if_neg c9] at H
      exact absurd H (by simp)
  · replace c7 := Bool.eq_false_iff.mpr c7
    subst c7
    have H1 : (some false) = some r := by rw [if_neg (show ¬ (false = true) by decide)] at H; exact H
    clear H
    have H := H1
    clear H1
    exact absurd ((Option.some.inj H).trans hr_) (by decide)

end Go.Proofs.Ythmpmladneiegaa.Pr
