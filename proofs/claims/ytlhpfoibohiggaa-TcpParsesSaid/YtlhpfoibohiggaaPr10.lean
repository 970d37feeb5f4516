-- Written by a program of the session (wip/tools) out of the translation, over the kit's print; with pieces of the session's own.
import Derived.Test.YtlhpfoibohiggaaPr0
import Derived.Test.YtlhpfoibohiggaaPr2
import Derived.Test.YtlhpfoibohiggaaPr4
import Derived.Test.YtlhpfoibohiggaaPr5
import Derived.Test.YtlhpfoibohiggaaPr7
namespace Go.Proofs.Ytlhpfoibohiggaa.Pr
open Go.RowKit Go.Proofs.YtlhpfoibohiggaaW.PrintWords Go.Proofs.YtlhpfoibohiggaaW.PrintLast Go.Proofs.YtlhpfoibohiggaaW.PrintMore
attribute [local go_sem] max2_int min2_int max_two min_two max_three min_three max_four min_four   -- for this text's walks alone
set_option linter.unusedVariables false
set_option linter.unusedSimpArgs false
open Go.Proofs.Ytlhpfoibohiggaa.Sp
attribute [local go_sem high] eqA31
/-! ### weighbridgelaw05_TcpParses: function 4 -/
def weighbridgelaw05_TcpParses.j0 : Nat → ByteArray → Int → Int → Bool → ByteArray → Bool → Option (Bool)
  | 0, _, _, _, _, _, _ => none
  | k + 1, x0, x4, x5, x13, x14, x37 => if x37 = true then (if x14.size ≤ 281474976710656 then ((some (numsOf x14 : List Int)).bind fun y212 => (if x4 < 0 then (if (y212.length : Int) = 0 then (none) else (if 0 ≤ (Int.tmod (wrap64 (-(wrap64 (x4 + 1)))) (y212.length : Int)) then (if (Int.tmod (wrap64 (-(wrap64 (x4 + 1)))) (y212.length : Int)) < (y212.length : Int) then ((some (y212.set ((Int.tmod (wrap64 (-(wrap64 (x4 + 1)))) (y212.length : Int)) : Int).toNat (Go.bits .xor .u8 (rd y212 (Int.tmod (wrap64 (-(wrap64 (x4 + 1)))) (y212.length : Int))) x5) : List Int)).bind fun y216 => ((tcp_Parse.f (strOfNums y216)).bind fun bt217 => ((weighbridgeref05_Parse.f (strOfNums y216)).bind fun bt228 => (if x13 = true then ((weighbridgelaw05_ref.f bt217.1 bt217.2.1 bt217.2.2.1 bt217.2.2.2.1 bt217.2.2.2.2.1 bt217.2.2.2.2.2.1 bt217.2.2.2.2.2.2.1 bt217.2.2.2.2.2.2.2.1).bind fun bt239 => (if (bt239.1 == bt228.1 && (bt239.2.1 == bt228.2.1 && (bt239.2.2.1 == bt228.2.2.1 && (bt239.2.2.2.1 == bt228.2.2.2.1 && (bt239.2.2.2.2.1 == bt228.2.2.2.2.1 && (bt239.2.2.2.2.2.1 == bt228.2.2.2.2.2.1 && (bt239.2.2.2.2.2.2.1 == bt228.2.2.2.2.2.2.1 && (bt239.2.2.2.2.2.2.2.toList == bt228.2.2.2.2.2.2.2.1.toList)))))))) = true then (if bt217.2.2.2.2.2.2.2.2.1.toList = bt228.2.2.2.2.2.2.2.2.1.toList then (some (bt217.2.2.2.2.2.2.2.2.2 == bt228.2.2.2.2.2.2.2.2.2)) else (some false)) else (some false))) else (some false))))) else (none)) else (none))) else (if (y212.length : Int) = 0 then (none) else (if 0 ≤ (Int.tmod x4 (y212.length : Int)) then (if (Int.tmod x4 (y212.length : Int)) < (y212.length : Int) then ((some (y212.set ((Int.tmod x4 (y212.length : Int)) : Int).toNat (Go.bits .xor .u8 (rd y212 (Int.tmod x4 (y212.length : Int))) x5) : List Int)).bind fun y248 => ((tcp_Parse.f (strOfNums y248)).bind fun bt249 => ((weighbridgeref05_Parse.f (strOfNums y248)).bind fun bt260 => (if x13 = true then ((weighbridgelaw05_ref.f bt249.1 bt249.2.1 bt249.2.2.1 bt249.2.2.2.1 bt249.2.2.2.2.1 bt249.2.2.2.2.2.1 bt249.2.2.2.2.2.2.1 bt249.2.2.2.2.2.2.2.1).bind fun bt271 => (if (bt271.1 == bt260.1 && (bt271.2.1 == bt260.2.1 && (bt271.2.2.1 == bt260.2.2.1 && (bt271.2.2.2.1 == bt260.2.2.2.1 && (bt271.2.2.2.2.1 == bt260.2.2.2.2.1 && (bt271.2.2.2.2.2.1 == bt260.2.2.2.2.2.1 && (bt271.2.2.2.2.2.2.1 == bt260.2.2.2.2.2.2.1 && (bt271.2.2.2.2.2.2.2.toList == bt260.2.2.2.2.2.2.2.1.toList)))))))) = true then (if bt249.2.2.2.2.2.2.2.2.1.toList = bt260.2.2.2.2.2.2.2.2.1.toList then (some (bt249.2.2.2.2.2.2.2.2.2 == bt260.2.2.2.2.2.2.2.2.2)) else (some false)) else (some false))) else (some false))))) else (none)) else (none))))) else (none)) else ((tcp_Parse.f x0).bind fun bt279 => ((weighbridgeref05_Parse.f x0).bind fun bt290 => (if x13 = true then ((weighbridgelaw05_ref.f bt279.1 bt279.2.1 bt279.2.2.1 bt279.2.2.2.1 bt279.2.2.2.2.1 bt279.2.2.2.2.2.1 bt279.2.2.2.2.2.2.1 bt279.2.2.2.2.2.2.2.1).bind fun bt301 => (if (bt301.1 == bt290.1 && (bt301.2.1 == bt290.2.1 && (bt301.2.2.1 == bt290.2.2.1 && (bt301.2.2.2.1 == bt290.2.2.2.1 && (bt301.2.2.2.2.1 == bt290.2.2.2.2.1 && (bt301.2.2.2.2.2.1 == bt290.2.2.2.2.2.1 && (bt301.2.2.2.2.2.2.1 == bt290.2.2.2.2.2.2.1 && (bt301.2.2.2.2.2.2.2.toList == bt290.2.2.2.2.2.2.2.1.toList)))))))) = true then (if bt279.2.2.2.2.2.2.2.2.1.toList = bt290.2.2.2.2.2.2.2.2.1.toList then (some (bt279.2.2.2.2.2.2.2.2.2 == bt290.2.2.2.2.2.2.2.2.2)) else (some false)) else (some false))) else (some false))))
def weighbridgelaw05_TcpParses.f (k : Nat) (a0 : ByteArray) (a1_0 : Int) (a1_1 : Int) (a1_2 : Int) (a1_3 : Int) (a1_4 : Int) (a1_5 : Int) (a1_6 : Int) (a1_7 : ByteArray) (a2 : ByteArray) (a3 : Bool) (a4 : Int) (a5 : Int) : Option (Bool) := (weighbridgelaw05_examples.f).bind fun t201 => (if t201 = true then ((weighbridgelaw05_ref.f a1_0 a1_1 a1_2 a1_3 a1_4 a1_5 a1_6 a1_7).bind fun bt202 => ((weighbridgeref05_Build.f bt202.1 bt202.2.1 bt202.2.2.1 bt202.2.2.2.1 bt202.2.2.2.2.1 bt202.2.2.2.2.2.1 bt202.2.2.2.2.2.2.1 bt202.2.2.2.2.2.2.2 a2).bind fun bt210 => (if a3 = true then (weighbridgelaw05_TcpParses.j0 k a0 a4 a5 t201 bt210.1 (bt210.2 == 0)) else (weighbridgelaw05_TcpParses.j0 k a0 a4 a5 t201 bt210.1 false)))) else (some false))
theorem weighbridgelaw05_TcpParses.mono_l : ∀ k, (∀ y0 y1 y2 y3 y4 y5, LeO (weighbridgelaw05_TcpParses.j0 k y0 y1 y2 y3 y4 y5) (weighbridgelaw05_TcpParses.j0 (k + 1) y0 y1 y2 y3 y4 y5))
  | 0 => fun _ _ _ _ _ _ r h => by simp [weighbridgelaw05_TcpParses.j0] at h
  | k + 1 => by
    have ih0 := weighbridgelaw05_TcpParses.mono_l k
    · intro y0 y1 y2 y3 y4 y5
      unfold weighbridgelaw05_TcpParses.j0
      repeat' first
      | (with_reducible exact ih0 _ _ _ _ _ _)
      | (with_reducible exact LeO.refl _)
      | (with_reducible exact LeO.none _)
      | (with_reducible refine LeO.ite ?_ ?_)
      | (with_reducible refine LeO.bind ?_ (fun _ => ?_))
      | exact ih0 _ _ _ _ _ _
      | exact LeO.none _
      | refine LeO.ite ?_ ?_
      | refine LeO.bind ?_ (fun _ => ?_)
theorem weighbridgelaw05_TcpParses.mono : ∀ a0 a1 a2 a3 a4 a5 a6 a7 a8 a9 a10 a11 a12 k, LeO (weighbridgelaw05_TcpParses.f k a0 a1 a2 a3 a4 a5 a6 a7 a8 a9 a10 a11 a12) (weighbridgelaw05_TcpParses.f (k + 1) a0 a1 a2 a3 a4 a5 a6 a7 a8 a9 a10 a11 a12) := by
  intro a0 a1 a2 a3 a4 a5 a6 a7 a8 a9 a10 a11 a12 k
  have ih0 := weighbridgelaw05_TcpParses.mono_l k
  unfold weighbridgelaw05_TcpParses.f
  repeat' first
      | (with_reducible exact ih0 _ _ _ _ _ _)
      | (with_reducible exact LeO.refl _)
      | (with_reducible exact LeO.none _)
      | (with_reducible refine LeO.ite ?_ ?_)
      | (with_reducible refine LeO.bind ?_ (fun _ => ?_))
      | exact ih0 _ _ _ _ _ _
      | exact LeO.none _
      | refine LeO.ite ?_ ?_
      | refine LeO.bind ?_ (fun _ => ?_)
def weighbridgelaw05_TcpParses.T9 : Bool × List (List Nat × List Nat) := (true, [([], []), ([], []), ([], []), ([2], [2]), ([1, 3], [1, 3]), ([], []), ([], []), ([], []), ([7], [7]), ([6, 8], [6, 8]), ([5, 9], [5, 9]), ([10], [10]), ([], []), ([11, 12], [11, 12]), ([0, 4, 0, 1, 2, 3, 4, 5, 6, 7, 8, 9, 10, 11, 12, 13], [0, 4]), ([14, 13, 0, 1, 2, 3, 4, 5, 6, 7, 8, 9, 10, 11, 12, 13], [13, 14])])
def weighbridgelaw05_TcpParses.B9 : List Nat := [0, 0, 0, 4, 14, 0, 0, 0, 128, 448, 992, 2016, 0, 8160, 16383, 32767]
theorem weighbridgelaw05_TcpParses.tab9 : rtab .any (opsOf Try.f4 9) = weighbridgelaw05_TcpParses.T9 := by kernel_rfl
theorem weighbridgelaw05_TcpParses.bits9 : waitsOk weighbridgelaw05_TcpParses.T9.2 weighbridgelaw05_TcpParses.B9 = true := by kernel_rfl
def weighbridgelaw05_TcpParses.T13 : Bool × List (List Nat × List Nat) := (true, [([], []), ([0], [0]), ([1], [1]), ([2, 1, 1], [1, 2]), ([1], [1]), ([3, 4, 1], [1, 3, 4]), ([1, 5], [1, 5]), ([6, 3], [6]), ([7], [7]), ([7], [7]), ([8, 9, 7], [7, 8, 9]), ([7, 10], [7, 10]), ([11, 7], [11]), ([12], [12]), ([12], [12]), ([13, 14, 12], [12, 13, 14]), ([12, 15], [12, 15]), ([16, 12, 0, 1, 2, 3, 4, 5, 6, 7, 8, 9, 10, 11, 12, 13, 14, 15, 16], [16])])
def weighbridgelaw05_TcpParses.B13 : List Nat := [0, 1, 3, 7, 3, 31, 63, 127, 255, 255, 1023, 2047, 4095, 8191, 8191, 32767, 65535, 131071]
theorem weighbridgelaw05_TcpParses.tab13 : rtab .any (opsOf Try.f4 13) = weighbridgelaw05_TcpParses.T13 := by kernel_rfl
theorem weighbridgelaw05_TcpParses.bits13 : waitsOk weighbridgelaw05_TcpParses.T13.2 weighbridgelaw05_TcpParses.B13 = true := by kernel_rfl
set_option maxHeartbeats 8000000 in
set_option maxRecDepth 100000 in
theorem weighbridgelaw05_TcpParses.calls (k : Nat) (a0 : ByteArray) (a1_0 : Int) (a1_1 : Int) (a1_2 : Int) (a1_3 : Int) (a1_4 : Int) (a1_5 : Int) (a1_6 : Int) (a1_7 : ByteArray) (a2 : ByteArray) (a3 : Bool) (a4 : Int) (a5 : Int) (r : Bool) (w : World) (h : weighbridgelaw05_TcpParses.f k a0 a1_0 a1_1 a1_2 a1_3 a1_4 a1_5 a1_6 a1_7 a2 a3 a4 a5 = some r) (hr_ : r = true) :
    Calls Try.prog 4 #[.string a0, .agg #[.int .i64 a1_0, .int .i64 a1_1, .int .u32 a1_2, .int .u32 a1_3, .int .i64 a1_4, .int .i64 a1_5, .int .i64 a1_6, .string a1_7], .string a2, .bool a3, .int .i64 a4, .int .u8 a5] w fun e w' => e = .returned (.bool r) ∧ Below w.heap.size w w' := by
  have hu24 := Try.underlying24
  have hu31 := Try.underlying31
  have HB := Aside0.mk (Below.refl w.heap.size w)
  have H : ((weighbridgelaw05_examples.f).bind fun t201 => (if t201 = true then ((weighbridgelaw05_ref.f a1_0 a1_1 a1_2 a1_3 a1_4 a1_5 a1_6 a1_7).bind fun bt202 => ((weighbridgeref05_Build.f bt202.1 bt202.2.1 bt202.2.2.1 bt202.2.2.2.1 bt202.2.2.2.2.1 bt202.2.2.2.2.2.1 bt202.2.2.2.2.2.2.1 bt202.2.2.2.2.2.2.2 a2).bind fun bt210 => (if a3 = true then (weighbridgelaw05_TcpParses.j0 k a0 a4 a5 t201 bt210.1 (bt210.2 == 0)) else (weighbridgelaw05_TcpParses.j0 k a0 a4 a5 t201 bt210.1 false)))) else (some false))) = some r := h
  clear h
  replace H := Option.bind_eq_some_iff.mp H
  obtain ⟨t201, A70, H⟩ := H
  replace H : (if t201 = true then ((weighbridgelaw05_ref.f a1_0 a1_1 a1_2 a1_3 a1_4 a1_5 a1_6 a1_7).bind fun bt202 => ((weighbridgeref05_Build.f bt202.1 bt202.2.1 bt202.2.2.1 bt202.2.2.2.1 bt202.2.2.2.2.1 bt202.2.2.2.2.2.1 bt202.2.2.2.2.2.2.1 bt202.2.2.2.2.2.2.2 a2).bind fun bt210 => (if a3 = true then (weighbridgelaw05_TcpParses.j0 k a0 a4 a5 t201 bt210.1 (bt210.2 == 0)) else (weighbridgelaw05_TcpParses.j0 k a0 a4 a5 t201 bt210.1 false)))) else (some false)) = some r := H
  have A7 := Aside0.mk A70
  clear A70
  by_cases c8 : t201 = true
  · subst c8
    have H1 : ((weighbridgelaw05_ref.f a1_0 a1_1 a1_2 a1_3 a1_4 a1_5 a1_6 a1_7).bind fun bt202 => ((weighbridgeref05_Build.f bt202.1 bt202.2.1 bt202.2.2.1 bt202.2.2.2.1 bt202.2.2.2.2.1 bt202.2.2.2.2.2.1 bt202.2.2.2.2.2.2.1 bt202.2.2.2.2.2.2.2 a2).bind fun bt210 => (if a3 = true then (weighbridgelaw05_TcpParses.j0 k a0 a4 a5 true bt210.1 (bt210.2 == 0)) else (weighbridgelaw05_TcpParses.j0 k a0 a4 a5 true bt210.1 false)))) = some r := by first | (rw [if_pos rfl] at H; exact H) | (rw [if_pos trivial] at H; exact H)
    clear H
    have H := H1
    clear H1
    replace H := Option.bind_eq_some_iff.mp H
    obtain ⟨⟨t202, t203, t204, t205, t206, t207, t208, t209⟩, A90, H⟩ := H
    replace H : ((weighbridgeref05_Build.f t202 t203 t204 t205 t206 t207 t208 t209 a2).bind fun bt210 => (if a3 = true then (weighbridgelaw05_TcpParses.j0 k a0 a4 a5 true bt210.1 (bt210.2 == 0)) else (weighbridgelaw05_TcpParses.j0 k a0 a4 a5 true bt210.1 false))) = some r := H
    have A9 := Aside0.mk A90
    clear A90
    replace H := Option.bind_eq_some_iff.mp H
    obtain ⟨⟨t210, t211⟩, A100, H⟩ := H
    replace H : (if a3 = true then (weighbridgelaw05_TcpParses.j0 k a0 a4 a5 true t210 (t211 == 0)) else (weighbridgelaw05_TcpParses.j0 k a0 a4 a5 true t210 false)) = some r := H
    have A10 := Aside0.mk A100
    clear A100
    have HC11 := Aside0.mk H
    clear H
    go_enter Try.func4, Try.ntmps4
    go_upto_region 5 with (first | ((with_reducible refine gate_dst (N := 7) rfl ?_); refine box_event ?hg (N := 7) ?hd (cs := #[.int .i64 a1_0, .int .i64 a1_1, .int .u32 a1_2, .int .u32 a1_3, .int .i64 a1_4, .int .i64 a1_5, .int .i64 a1_6, .string a1_7]) (t := 24) ?hr ?_; (case hd => rfl); (case hg => rfl); (case hr => first | (go_simp; done) | (go_simp; rfl)); intro gb200 hg w12 hbox hb; have n0_ := Aside0.mk (below_step (by repeat (first | (with_reducible first | exact HB.out | apply below_alloc | apply pw_below_drewN | apply below_drew1) | exact HB.out)) hb); have n1_ := Aside0.mk (hbox); have n2_ := Aside0.mk ((by rw [hg]; exact (below_size (by repeat (first | (with_reducible first | exact HB.out | apply below_alloc | apply pw_below_drewN | apply below_drew1) | exact HB.out))) : w.heap.size ≤ gb200)); have n3_ := Aside0.mk ((by rw [hg]; exact (below_size (by repeat (first | (with_reducible first | exact HB.out | apply below_alloc | apply pw_below_drewN | apply below_drew1) | exact HB.out))) : w.heap.size ≤ gb200)); clear HB; have HB := n0_; have BK200 := n1_; have GW200 := n2_; have GE200 := n3_; clear n0_ n1_ n2_ n3_; clear hb hbox hg) | ((with_reducible refine gate_callee (f := 10) rfl ?_); refine goesL_ (some 23) rfl rfl Try.func10 (by kernel_rfl) rfl #[] rfl (by (try simp only [List.map_toArray, List.map_cons, List.map_nil]); first | done | rfl | (simp only [List.length_drop, List.length_take]; rfl)) ?_; (with_reducible refine (weighbridgelaw05_examples.calls  true _ A7.out).mono ?_); rintro e w13 ⟨rfl, hb⟩; refine ⟨_, rfl, ?_⟩; have n0_ := Aside0.mk (blk_below (g := gb200) (o := .cells #[.int .i64 a1_0, .int .i64 a1_1, .int .u32 a1_2, .int .u32 a1_3, .int .i64 a1_4, .int .i64 a1_5, .int .i64 a1_6, .string a1_7] 24 (0, 0)) (by (with_reducible repeat (first | refine blk_drewN ?_ _ | refine blk_drew ?_ | refine blk_alloc ?_ _)); exact BK200.out) hb); have n1_ := Aside0.mk (below_step (by repeat (first | (with_reducible first | exact HB.out | apply below_alloc | apply pw_below_drewN | apply below_drew1 | refine below_set ?_ GE200.out) | exact HB.out)) hb); clear BK200; clear HB; have BK200 := n0_; have HB := n1_; clear n0_ n1_; (try clear hb); (try clear hb2); (try clear hk); (try clear hi); have hcz14_0 : w13.cell? ⟨gb200, 0, none⟩ = some (.int .i64 a1_0) := (blk_cell BK200.out 0).trans rfl; have hcz14_1 : w13.cell? ⟨gb200, 1, none⟩ = some (.int .i64 a1_1) := (blk_cell BK200.out 1).trans rfl; have hcz14_2 : w13.cell? ⟨gb200, 2, none⟩ = some (.int .u32 a1_2) := (blk_cell BK200.out 2).trans rfl; have hcz14_3 : w13.cell? ⟨gb200, 3, none⟩ = some (.int .u32 a1_3) := (blk_cell BK200.out 3).trans rfl; have hcz14_4 : w13.cell? ⟨gb200, 4, none⟩ = some (.int .i64 a1_4) := (blk_cell BK200.out 4).trans rfl; have hcz14_5 : w13.cell? ⟨gb200, 5, none⟩ = some (.int .i64 a1_5) := (blk_cell BK200.out 5).trans rfl; have hcz14_6 : w13.cell? ⟨gb200, 6, none⟩ = some (.int .i64 a1_6) := (blk_cell BK200.out 6).trans rfl; have hcz14_7 : w13.cell? ⟨gb200, 7, none⟩ = some (.string a1_7) := (blk_cell BK200.out 7).trans rfl; have hfz14_0 := blk_frozen BK200.out 0; have hfz14_1 := blk_frozen BK200.out 1; have hfz14_2 := blk_frozen BK200.out 2; have hfz14_3 := blk_frozen BK200.out 3; have hfz14_4 := blk_frozen BK200.out 4; have hfz14_5 := blk_frozen BK200.out 5; have hfz14_6 := blk_frozen BK200.out 6; have hfz14_7 := blk_frozen BK200.out 7) | ((with_reducible refine gate_callee (f := 13) rfl ?_); refine goesL_ (some 28) rfl rfl Try.func13 (by kernel_rfl) rfl #[.agg #[.int .i64 a1_0, .int .i64 a1_1, .int .u32 a1_2, .int .u32 a1_3, .int .i64 a1_4, .int .i64 a1_5, .int .i64 a1_6, .string a1_7]] rfl (by (try simp only [List.map_toArray, List.map_cons, List.map_nil]); first | done | rfl | (simp only [List.length_drop, List.length_take]; rfl)) ?_; (with_reducible refine (weighbridgelaw05_ref.calls a1_0 a1_1 a1_2 a1_3 a1_4 a1_5 a1_6 a1_7 t202 t203 t204 t205 t206 t207 t208 t209 _ A9.out).mono ?_); rintro e w15 ⟨rfl, hb⟩; refine ⟨_, rfl, ?_⟩; have n0_ := Aside0.mk (blk_below (g := gb200) (o := .cells #[.int .i64 a1_0, .int .i64 a1_1, .int .u32 a1_2, .int .u32 a1_3, .int .i64 a1_4, .int .i64 a1_5, .int .i64 a1_6, .string a1_7] 24 (0, 0)) (by (with_reducible repeat (first | refine blk_drewN ?_ _ | refine blk_drew ?_ | refine blk_alloc ?_ _)); exact BK200.out) hb); have n1_ := Aside0.mk (below_step (by repeat (first | (with_reducible first | exact HB.out | apply below_alloc | apply pw_below_drewN | apply below_drew1 | refine below_set ?_ GE200.out) | exact HB.out)) hb); clear BK200; clear HB; have BK200 := n0_; have HB := n1_; clear n0_ n1_; (try clear hb); (try clear hb2); (try clear hk); (try clear hi)) | ((with_reducible refine gate_callee (f := 12) rfl ?_); refine goesL_ (some 30) rfl rfl Try.func12 (by kernel_rfl) rfl #[.agg #[.int .i64 t202, .int .i64 t203, .int .u32 t204, .int .u32 t205, .int .i64 t206, .int .i64 t207, .int .i64 t208, .string t209], .string a2] rfl (by (try simp only [List.map_toArray, List.map_cons, List.map_nil]); first | done | rfl | (simp only [List.length_drop, List.length_take]; rfl)) ?_; (with_reducible refine (weighbridgeref05_Build.calls t202 t203 t204 t205 t206 t207 t208 t209 a2 t210 t211 _ A10.out).mono ?_); rintro e w16 ⟨rfl, hb⟩; refine ⟨_, rfl, ?_⟩; have n0_ := Aside0.mk (blk_below (g := gb200) (o := .cells #[.int .i64 a1_0, .int .i64 a1_1, .int .u32 a1_2, .int .u32 a1_3, .int .i64 a1_4, .int .i64 a1_5, .int .i64 a1_6, .string a1_7] 24 (0, 0)) (by (with_reducible repeat (first | refine blk_drewN ?_ _ | refine blk_drew ?_ | refine blk_alloc ?_ _)); exact BK200.out) hb); have n1_ := Aside0.mk (below_step (by repeat (first | (with_reducible first | exact HB.out | apply below_alloc | apply pw_below_drewN | apply below_drew1 | refine below_set ?_ GE200.out) | exact HB.out)) hb); clear BK200; clear HB; have BK200 := n0_; have HB := n1_; clear n0_ n1_; (try clear hb); (try clear hb2); (try clear hk); (try clear hi)))
    (try simp only [Act.put, List.setIfInBounds_toArray, List.set_cons_zero, List.set_cons_succ])
    go_cut [37] (fun v37 wc => ∃ (kq : Nat) (x37_10 : Bool), v37 = .bool x37_10 ∧ Aside0 (weighbridgelaw05_TcpParses.j0 kq a0 a4 a5 true t210 x37_10 = some r) ∧ Aside0 (kq ≤ k) ∧ Aside0 (wc.heap[gb200]? = some (.cells #[.int .i64 a1_0, .int .i64 a1_1, .int .u32 a1_2, .int .u32 a1_3, .int .i64 a1_4, .int .i64 a1_5, .int .i64 a1_6, .string a1_7] 24 (0, 0))) ∧ Aside0 (Below w.heap.size w wc))
    case first =>
      have H := HC11.out
      clear HC11
      by_cases c17 : a3 = true
      · subst c17
        have H1 : (weighbridgelaw05_TcpParses.j0 k a0 a4 a5 true t210 (t211 == 0)) = some r := by first | (rw [if_pos rfl] at H; exact H) | (rw [if_pos trivial] at H; exact H)
        clear H
        have H := H1
        clear H1
        have H' := Aside0.mk H
        clear H
        go_wp2
        go_meet
        case rel => exact ⟨_, ((t211 == 0)), (by first | rfl | (simp; done) | (congr 2; simp only [ByteArray.size_extract, ByteArray.size_append]; (try unfold wrap64); omega) | (simp only [ByteArray.size_extract, ByteArray.size_append, Nat.sub_zero]; done) | (congr 1; simp only [ByteArray.size_extract, ByteArray.size_append, Nat.sub_zero]; omega) | (simp [*]; done)), H', ⟨by first | omega | exact Nat.le_refl _⟩, ⟨by (with_reducible repeat (first | refine blk_drewN ?_ _ | refine blk_drew ?_ | refine blk_alloc ?_ _)); exact BK200.out⟩, ⟨by repeat (first | (with_reducible first | exact HB.out | apply below_alloc | apply pw_below_drewN | apply below_drew1 | refine below_set ?_ GE200.out) | exact HB.out)⟩⟩
      · replace c17 := Bool.eq_false_iff.mpr c17
        subst c17
        have H1 : (weighbridgelaw05_TcpParses.j0 k a0 a4 a5 true t210 false) = some r := by rw [if_neg (show ¬ (false = true) by decide)] at H; exact H
        clear H
        have H := H1
        clear H1
        have H' := Aside0.mk H
        clear H
        go_wp2
        go_meet
        case rel => exact ⟨_, (false), (by first | rfl | (simp; done) | (congr 2; simp only [ByteArray.size_extract, ByteArray.size_append]; (try unfold wrap64); omega) | (simp only [ByteArray.size_extract, ByteArray.size_append, Nat.sub_zero]; done) | (congr 1; simp only [ByteArray.size_extract, ByteArray.size_append, Nat.sub_zero]; omega) | (simp [*]; done)), H', ⟨by first | omega | exact Nat.le_refl _⟩, ⟨by (with_reducible repeat (first | refine blk_drewN ?_ _ | refine blk_drew ?_ | refine blk_alloc ?_ _)); exact BK200.out⟩, ⟨by repeat (first | (with_reducible first | exact HB.out | apply below_alloc | apply pw_below_drewN | apply below_drew1 | refine below_set ?_ GE200.out) | exact HB.out)⟩⟩
    case rest =>
      clear HC11
      try clear c1
      try clear p2
      try clear c4
      try clear c8
      try clear c10
      try clear c12
      try clear c13
      try clear c17
      try clear hcz14_0
      try clear hcz14_1
      try clear hcz14_2
      try clear hcz14_3
      try clear hcz14_4
      try clear hcz14_5
      try clear hcz14_6
      try clear hcz14_7
      try clear hfz14_0
      try clear hfz14_1
      try clear hfz14_2
      try clear hfz14_3
      try clear hfz14_4
      try clear hfz14_5
      try clear hfz14_6
      try clear hfz14_7
      obtain ⟨kq, x37_10, rfl, HA, HJ10, BK200, HB⟩ := hcut
      cases kq with
      | zero => exact absurd HA.out (by simp [weighbridgelaw05_TcpParses.j0])
      | succ kj10 =>
        have H := HA.out
        clear HA
        simp only [weighbridgelaw05_TcpParses.j0] at H
        by_cases c18 : x37_10 = true
        · subst c18
          have H1 : (if t210.size ≤ 281474976710656 then ((some (numsOf t210 : List Int)).bind fun y212 => (if a4 < 0 then (if (y212.length : Int) = 0 then (none) else (if 0 ≤ (Int.tmod (wrap64 (-(wrap64 (a4 + 1)))) (y212.length : Int)) then (if (Int.tmod (wrap64 (-(wrap64 (a4 + 1)))) (y212.length : Int)) < (y212.length : Int) then ((some (y212.set ((Int.tmod (wrap64 (-(wrap64 (a4 + 1)))) (y212.length : Int)) : Int).toNat (Go.bits .xor .u8 (rd y212 (Int.tmod (wrap64 (-(wrap64 (a4 + 1)))) (y212.length : Int))) a5) : List Int)).bind fun y216 => ((tcp_Parse.f (strOfNums y216)).bind fun bt217 => ((weighbridgeref05_Parse.f (strOfNums y216)).bind fun bt228 => (if true = true then ((weighbridgelaw05_ref.f bt217.1 bt217.2.1 bt217.2.2.1 bt217.2.2.2.1 bt217.2.2.2.2.1 bt217.2.2.2.2.2.1 bt217.2.2.2.2.2.2.1 bt217.2.2.2.2.2.2.2.1).bind fun bt239 => (if (bt239.1 == bt228.1 && (bt239.2.1 == bt228.2.1 && (bt239.2.2.1 == bt228.2.2.1 && (bt239.2.2.2.1 == bt228.2.2.2.1 && (bt239.2.2.2.2.1 == bt228.2.2.2.2.1 && (bt239.2.2.2.2.2.1 == bt228.2.2.2.2.2.1 && (bt239.2.2.2.2.2.2.1 == bt228.2.2.2.2.2.2.1 && (bt239.2.2.2.2.2.2.2.toList == bt228.2.2.2.2.2.2.2.1.toList)))))))) = true then (if bt217.2.2.2.2.2.2.2.2.1.toList = bt228.2.2.2.2.2.2.2.2.1.toList then (some (bt217.2.2.2.2.2.2.2.2.2 == bt228.2.2.2.2.2.2.2.2.2)) else (some false)) else (some false))) else (some false))))) else (none)) else (none))) else (if (y212.length : Int) = 0 then (none) else (if 0 ≤ (Int.tmod a4 (y212.length : Int)) then (if (Int.tmod a4 (y212.length : Int)) < (y212.length : Int) then ((some (y212.set ((Int.tmod a4 (y212.length : Int)) : Int).toNat (Go.bits .xor .u8 (rd y212 (Int.tmod a4 (y212.length : Int))) a5) : List Int)).bind fun y248 => ((tcp_Parse.f (strOfNums y248)).bind fun bt249 => ((weighbridgeref05_Parse.f (strOfNums y248)).bind fun bt260 => (if true = true then ((weighbridgelaw05_ref.f bt249.1 bt249.2.1 bt249.2.2.1 bt249.2.2.2.1 bt249.2.2.2.2.1 bt249.2.2.2.2.2.1 bt249.2.2.2.2.2.2.1 bt249.2.2.2.2.2.2.2.1).bind fun bt271 => (if (bt271.1 == bt260.1 && (bt271.2.1 == bt260.2.1 && (bt271.2.2.1 == bt260.2.2.1 && (bt271.2.2.2.1 == bt260.2.2.2.1 && (bt271.2.2.2.2.1 == bt260.2.2.2.2.1 && (bt271.2.2.2.2.2.1 == bt260.2.2.2.2.2.1 && (bt271.2.2.2.2.2.2.1 == bt260.2.2.2.2.2.2.1 && (bt271.2.2.2.2.2.2.2.toList == bt260.2.2.2.2.2.2.2.1.toList)))))))) = true then (if bt249.2.2.2.2.2.2.2.2.1.toList = bt260.2.2.2.2.2.2.2.2.1.toList then (some (bt249.2.2.2.2.2.2.2.2.2 == bt260.2.2.2.2.2.2.2.2.2)) else (some false)) else (some false))) else (some false))))) else (none)) else (none))))) else (none)) = some r := by first | (rw [if_pos rfl] at H; exact H) | (rw [if_pos trivial] at H; exact H)
          clear H
          have H := H1
          clear H1
          by_cases c19 : t210.size ≤ 281474976710656
          · rw [if_pos c19] at H
            have c19b0 := eq_true c19
            have c19b1 : decide (t210.size ≤ 281474976710656) = true := decide_eq_true c19
            clear c19
            obtain ⟨y212, hy212⟩ : ∃ y_ : List Int, y_ = (numsOf t210) := ⟨_, rfl⟩
            replace H : (if a4 < 0 then (if (y212.length : Int) = 0 then (none) else (if 0 ≤ (Int.tmod (wrap64 (-(wrap64 (a4 + 1)))) (y212.length : Int)) then (if (Int.tmod (wrap64 (-(wrap64 (a4 + 1)))) (y212.length : Int)) < (y212.length : Int) then ((some (y212.set ((Int.tmod (wrap64 (-(wrap64 (a4 + 1)))) (y212.length : Int)) : Int).toNat (Go.bits .xor .u8 (rd y212 (Int.tmod (wrap64 (-(wrap64 (a4 + 1)))) (y212.length : Int))) a5) : List Int)).bind fun y216 => ((tcp_Parse.f (strOfNums y216)).bind fun bt217 => ((weighbridgeref05_Parse.f (strOfNums y216)).bind fun bt228 => (if true = true then ((weighbridgelaw05_ref.f bt217.1 bt217.2.1 bt217.2.2.1 bt217.2.2.2.1 bt217.2.2.2.2.1 bt217.2.2.2.2.2.1 bt217.2.2.2.2.2.2.1 bt217.2.2.2.2.2.2.2.1).bind fun bt239 => (if (bt239.1 == bt228.1 && (bt239.2.1 == bt228.2.1 && (bt239.2.2.1 == bt228.2.2.1 && (bt239.2.2.2.1 == bt228.2.2.2.1 && (bt239.2.2.2.2.1 == bt228.2.2.2.2.1 && (bt239.2.2.2.2.2.1 == bt228.2.2.2.2.2.1 && (bt239.2.2.2.2.2.2.1 == bt228.2.2.2.2.2.2.1 && (bt239.2.2.2.2.2.2.2.toList == bt228.2.2.2.2.2.2.2.1.toList)))))))) = true then (if bt217.2.2.2.2.2.2.2.2.1.toList = bt228.2.2.2.2.2.2.2.2.1.toList then (some (bt217.2.2.2.2.2.2.2.2.2 == bt228.2.2.2.2.2.2.2.2.2)) else (some false)) else (some false))) else (some false))))) else (none)) else (none))) else (if (y212.length : Int) = 0 then (none) else (if 0 ≤ (Int.tmod a4 (y212.length : Int)) then (if (Int.tmod a4 (y212.length : Int)) < (y212.length : Int) then ((some (y212.set ((Int.tmod a4 (y212.length : Int)) : Int).toNat (Go.bits .xor .u8 (rd y212 (Int.tmod a4 (y212.length : Int))) a5) : List Int)).bind fun y248 => ((tcp_Parse.f (strOfNums y248)).bind fun bt249 => ((weighbridgeref05_Parse.f (strOfNums y248)).bind fun bt260 => (if true = true then ((weighbridgelaw05_ref.f bt249.1 bt249.2.1 bt249.2.2.1 bt249.2.2.2.1 bt249.2.2.2.2.1 bt249.2.2.2.2.2.1 bt249.2.2.2.2.2.2.1 bt249.2.2.2.2.2.2.2.1).bind fun bt271 => (if (bt271.1 == bt260.1 && (bt271.2.1 == bt260.2.1 && (bt271.2.2.1 == bt260.2.2.1 && (bt271.2.2.2.1 == bt260.2.2.2.1 && (bt271.2.2.2.2.1 == bt260.2.2.2.2.1 && (bt271.2.2.2.2.2.1 == bt260.2.2.2.2.2.1 && (bt271.2.2.2.2.2.2.1 == bt260.2.2.2.2.2.2.1 && (bt271.2.2.2.2.2.2.2.toList == bt260.2.2.2.2.2.2.2.1.toList)))))))) = true then (if bt249.2.2.2.2.2.2.2.2.1.toList = bt260.2.2.2.2.2.2.2.2.1.toList then (some (bt249.2.2.2.2.2.2.2.2.2 == bt260.2.2.2.2.2.2.2.2.2)) else (some false)) else (some false))) else (some false))))) else (none)) else (none)))) = some r := by first | (rw [hy212]; with_reducible exact H) | (have H2_ := (Option.bind_some _ _).symm.trans H; rw [hy212]; with_reducible exact H2_) | (have H2_ := (Option.bind_some _ _).symm.trans H; with_reducible exact H2_) | with_reducible exact H | (rw [hy212]; exact H) | exact H
            have Ny212 := Aside0.mk hy212
            clear hy212
            by_cases c20 : a4 < 0
            · rw [if_pos c20] at H
              have c20b0 : decide (a4 < 0) = true := decide_eq_true c20
              clear c20
              by_cases c21 : (y212.length : Int) = 0
              · rw [if_pos c21] at H
                exact absurd H (by simp)
              · rw [if_neg c21] at H
                have c21b0 : ((y212.length : Int) == 0) = false := beq_eq_false_iff_ne.mpr c21
                have c21b1 : ((y212.length : Int) != 0) = true := bne_iff_ne.mpr c21
                have c21b2 : ¬ (y212 = []) := fun h_ => c21 (by rw [h_]; rfl)
                obtain ⟨ji22, hji22⟩ : ∃ j_ : Int, (Int.tmod (wrap64 (-(wrap64 (a4 + 1)))) (y212.length : Int)) = j_ := ⟨_, rfl⟩
                replace H : (if 0 ≤ (ji22) then (if (ji22) < (y212.length : Int) then ((some (y212.set ((ji22) : Int).toNat (Go.bits .xor .u8 (rd y212 (ji22)) a5) : List Int)).bind fun y216 => ((tcp_Parse.f (strOfNums y216)).bind fun bt217 => ((weighbridgeref05_Parse.f (strOfNums y216)).bind fun bt228 => (if true = true then ((weighbridgelaw05_ref.f bt217.1 bt217.2.1 bt217.2.2.1 bt217.2.2.2.1 bt217.2.2.2.2.1 bt217.2.2.2.2.2.1 bt217.2.2.2.2.2.2.1 bt217.2.2.2.2.2.2.2.1).bind fun bt239 => (if (bt239.1 == bt228.1 && (bt239.2.1 == bt228.2.1 && (bt239.2.2.1 == bt228.2.2.1 && (bt239.2.2.2.1 == bt228.2.2.2.1 && (bt239.2.2.2.2.1 == bt228.2.2.2.2.1 && (bt239.2.2.2.2.2.1 == bt228.2.2.2.2.2.1 && (bt239.2.2.2.2.2.2.1 == bt228.2.2.2.2.2.2.1 && (bt239.2.2.2.2.2.2.2.toList == bt228.2.2.2.2.2.2.2.1.toList)))))))) = true then (if bt217.2.2.2.2.2.2.2.2.1.toList = bt228.2.2.2.2.2.2.2.2.1.toList then (some (bt217.2.2.2.2.2.2.2.2.2 == bt228.2.2.2.2.2.2.2.2.2)) else (some false)) else (some false))) else (some false))))) else (none)) else (none)) = some r := by first | (rw [hji22] at H; exact H) | (simp only [hji22] at H ⊢; exact H)
                by_cases c23 : 0 ≤ (ji22)
                · rw [if_pos c23] at H
                  have c23b0 : decide (0 ≤ (ji22)) = true := decide_eq_true c23
                  clear c23
                  by_cases c24 : (ji22) < (y212.length : Int)
                  · rw [if_pos c24] at H
                    have c24b0 : decide ((ji22) < (y212.length : Int)) = true := decide_eq_true c24
                    clear c24
                    obtain ⟨y216, hy216⟩ : ∃ y_ : List Int, y_ = (y212.set ((ji22) : Int).toNat (Go.bits .xor .u8 (rd y212 (ji22)) a5)) := ⟨_, rfl⟩
                    replace H : ((tcp_Parse.f (strOfNums y216)).bind fun bt217 => ((weighbridgeref05_Parse.f (strOfNums y216)).bind fun bt228 => (if true = true then ((weighbridgelaw05_ref.f bt217.1 bt217.2.1 bt217.2.2.1 bt217.2.2.2.1 bt217.2.2.2.2.1 bt217.2.2.2.2.2.1 bt217.2.2.2.2.2.2.1 bt217.2.2.2.2.2.2.2.1).bind fun bt239 => (if (bt239.1 == bt228.1 && (bt239.2.1 == bt228.2.1 && (bt239.2.2.1 == bt228.2.2.1 && (bt239.2.2.2.1 == bt228.2.2.2.1 && (bt239.2.2.2.2.1 == bt228.2.2.2.2.1 && (bt239.2.2.2.2.2.1 == bt228.2.2.2.2.2.1 && (bt239.2.2.2.2.2.2.1 == bt228.2.2.2.2.2.2.1 && (bt239.2.2.2.2.2.2.2.toList == bt228.2.2.2.2.2.2.2.1.toList)))))))) = true then (if bt217.2.2.2.2.2.2.2.2.1.toList = bt228.2.2.2.2.2.2.2.2.1.toList then (some (bt217.2.2.2.2.2.2.2.2.2 == bt228.2.2.2.2.2.2.2.2.2)) else (some false)) else (some false))) else (some false)))) = some r := by first | (rw [hy216]; with_reducible exact H) | (have H2_ := (Option.bind_some _ _).symm.trans H; rw [hy216]; with_reducible exact H2_) | (have H2_ := (Option.bind_some _ _).symm.trans H; with_reducible exact H2_) | with_reducible exact H | (rw [hy216]; exact H) | exact H
                    have Ny216 := Aside0.mk hy216
                    clear hy216
                    replace H := Option.bind_eq_some_iff.mp H
                    obtain ⟨⟨t217, t218, t219, t220, t221, t222, t223, t224, t225, t226⟩, A260, H⟩ := H
                    replace H : ((weighbridgeref05_Parse.f (strOfNums y216)).bind fun bt228 => (if true = true then ((weighbridgelaw05_ref.f t217 t218 t219 t220 t221 t222 t223 t224).bind fun bt239 => (if (bt239.1 == bt228.1 && (bt239.2.1 == bt228.2.1 && (bt239.2.2.1 == bt228.2.2.1 && (bt239.2.2.2.1 == bt228.2.2.2.1 && (bt239.2.2.2.2.1 == bt228.2.2.2.2.1 && (bt239.2.2.2.2.2.1 == bt228.2.2.2.2.2.1 && (bt239.2.2.2.2.2.2.1 == bt228.2.2.2.2.2.2.1 && (bt239.2.2.2.2.2.2.2.toList == bt228.2.2.2.2.2.2.2.1.toList)))))))) = true then (if t225.toList = bt228.2.2.2.2.2.2.2.2.1.toList then (some (t226 == bt228.2.2.2.2.2.2.2.2.2)) else (some false)) else (some false))) else (some false))) = some r := H
                    have A26 := Aside0.mk A260
                    clear A260
                    replace H := Option.bind_eq_some_iff.mp H
                    obtain ⟨⟨t228, t229, t230, t231, t232, t233, t234, t235, t236, t237⟩, A270, H⟩ := H
                    replace H : (if true = true then ((weighbridgelaw05_ref.f t217 t218 t219 t220 t221 t222 t223 t224).bind fun bt239 => (if (bt239.1 == t228 && (bt239.2.1 == t229 && (bt239.2.2.1 == t230 && (bt239.2.2.2.1 == t231 && (bt239.2.2.2.2.1 == t232 && (bt239.2.2.2.2.2.1 == t233 && (bt239.2.2.2.2.2.2.1 == t234 && (bt239.2.2.2.2.2.2.2.toList == t235.toList)))))))) = true then (if t225.toList = t236.toList then (some (t226 == t237)) else (some false)) else (some false))) else (some false)) = some r := H
                    have A27 := Aside0.mk A270
                    clear A270
                    have c28 : true = true := rfl
                    · clear c28
                      have H1 : ((weighbridgelaw05_ref.f t217 t218 t219 t220 t221 t222 t223 t224).bind fun bt239 => (if (bt239.1 == t228 && (bt239.2.1 == t229 && (bt239.2.2.1 == t230 && (bt239.2.2.2.1 == t231 && (bt239.2.2.2.2.1 == t232 && (bt239.2.2.2.2.2.1 == t233 && (bt239.2.2.2.2.2.2.1 == t234 && (bt239.2.2.2.2.2.2.2.toList == t235.toList)))))))) = true then (if t225.toList = t236.toList then (some (t226 == t237)) else (some false)) else (some false))) = some r := by first | (rw [if_pos rfl] at H; exact H) | (rw [if_pos trivial] at H; exact H)
                      clear H
                      have H := H1
                      clear H1
                      replace H := Option.bind_eq_some_iff.mp H
                      obtain ⟨⟨t239, t240, t241, t242, t243, t244, t245, t246⟩, A290, H⟩ := H
                      replace H : (if (t239 == t228 && (t240 == t229 && (t241 == t230 && (t242 == t231 && (t243 == t232 && (t244 == t233 && (t245 == t234 && (t246.toList == t235.toList)))))))) = true then (if t225.toList = t236.toList then (some (t226 == t237)) else (some false)) else (some false)) = some r := H
                      have A29 := Aside0.mk A290
                      clear A290
                      by_cases c30 : (t239 == t228 && (t240 == t229 && (t241 == t230 && (t242 == t231 && (t243 == t232 && (t244 == t233 && (t245 == t234 && (t246.toList == t235.toList)))))))) = true
                      · rw [if_pos c30] at H
                        have c30b0 : (t239 == t228 && (t240 == t229 && (t241 == t230 && (t242 == t231 && (t243 == t232 && (t244 == t233 && (t245 == t234 && (t246.toList == t235.toList)))))))) = true := c30
                        (try (have c30b1 : decide (t239 = t228 && (t240 == t229 && (t241 == t230 && (t242 == t231 && (t243 == t232 && (t244 == t233 && (t245 == t234 && (t246.toList == t235.toList)))))))) = true := by simpa using c30))
                        (try (have c30b2 : (t239 == t228 && (t240 == t229 && (t241 == t230 && (t242 == t231 && (t243 == t232 && (t244 == t233 && (t245 == t234 && (t246.toList == t235.toList)))))))) = true := by simpa using c30))
                        clear c30
                        by_cases c31 : t225.toList = t236.toList
                        · rw [if_pos c31] at H
                          have c31b0 : (t225.toList == t236.toList) = true := beq_iff_eq.mpr c31
                          have c31b1 : (t225.toList != t236.toList) = false := bne_eq_false_iff_eq.mpr c31
                          clear c31
                          obtain rfl := Option.some.inj H
                          try go_wp2_with (first | ((with_reducible refine gate_dst (N := 39) rfl ?_); refine Kb.Q_conv (Kd.int .u8) 5 rfl (N := 39) rfl 9 38 _ rfl t210 rfl Try.underlying9 Try.underlying38 Try.underlying5 (ok := fun _ => True) trivial (of_decide_eq_true (by first | (with_reducible assumption) | assumption)) ?_; intro v213 w32 ho33 hb hg_ hnew_; clear hg_ hnew_; (first | rw [← Ny212.out] at ho33 | (simp only [Int.reduceToNat] at ho33; rw [← Ny212.out] at ho33)); have n0_ := Aside0.mk (Kb.Q_lower ho33 (below_size (by repeat (first | (with_reducible first | exact HB.out | apply below_alloc | apply pw_below_drewN | apply below_drew1 | refine below_set ?_ GE200.out) | exact HB.out)))); have n1_ := Aside0.mk (blk_below (g := gb200) (o := .cells #[.int .i64 a1_0, .int .i64 a1_1, .int .u32 a1_2, .int .u32 a1_3, .int .i64 a1_4, .int .i64 a1_5, .int .i64 a1_6, .string a1_7] 24 (0, 0)) (by (with_reducible repeat (first | refine blk_drewN ?_ _ | refine blk_drew ?_ | refine blk_alloc ?_ _)); exact BK200.out) hb); have n2_ := Aside0.mk (below_step (by repeat (first | (with_reducible first | exact HB.out | apply below_alloc | apply pw_below_drewN | apply below_drew1 | refine below_set ?_ GE200.out) | exact HB.out)) hb); clear BK200; clear HB; have HO214 := n0_; have BK200 := n1_; have HB := n2_; clear n0_ n1_ n2_; clear hb ho33))
                          have n0_ := Aside0.mk (Kb.Q_drew HO214.out)
                          have n1_ := Aside0.mk (blk_drew BK200.out)
                          have n2_ := Aside0.mk (below_drew1 HB.out)
                          clear HO214
                          clear BK200
                          clear HB
                          have HO214 := n0_
                          have BK200 := n1_
                          have HB := n2_
                          clear n0_ n1_ n2_
                          obtain ⟨Ao35, co35, eo35, _⟩ := Kb.Q_slice HO214.out
                          (first | subst eo35 | (injection eo35 with f1_ f2_ f3_; have f4_ := f1_.symm; have f5_ := f3_.symm; clear f1_ f2_ f3_; subst f4_; subst f5_))
                          have p215 : 0 ≤ ((ji22) : Int) := of_decide_eq_true (by first | (with_reducible assumption) | assumption)
                          have q215 : (ji22) < (y212.length : Int) := of_decide_eq_true (by first | (with_reducible assumption) | assumption)
                          obtain ⟨ad215, e215, hx215_0⟩ := Kd.at_int (Kb.Q_reads' HO214.out).2.2 (ji22) p215 q215
                          cases e215
                          replace p215 := eq_true p215
                          replace q215 := eq_true q215
                          have p25 : 0 ≤ ((ji22) : Int) := of_decide_eq_true (by first | (with_reducible assumption) | assumption)
                          have q25 : ((ji22) : Int) < ((y212.length : Int) : Int) := of_decide_eq_true (by first | (with_reducible assumption) | assumption)
                          obtain ⟨go25, co25, eo25, gb25, gl25, cl25, HG25⟩ := Kb.Q_form HO214.out (by omega)
                          (first | cases eo25 | (injection eo25 with ea_ en_ ec_; (first | subst ea_ | (injection ea_ with ea_; subst ea_)); subst ec_; clear en_))
                          have GB25 := Aside0.mk gb25
                          have GG25 := Aside0.mk HG25
                          clear gb25 gl25 HG25
                          (first | simp only [add_at, Nat.zero_add] at hx215_0 | skip)
                          obtain ⟨hx25_0, hf25_0⟩ := Kb.Q_cell 0 HO214.out ((ji22) : Int) p25 q25
                          replace p25 := eq_true p25
                          replace q25 := eq_true q25
                          have HP36 := (Kb.Q_putg HO214.out ((ji22) : Int) (of_decide_eq_true (by first | (with_reducible assumption) | assumption)) (by have h_ : ((ji22) : Int) < ((y212.length : Int) : Int) := of_decide_eq_true (by first | (with_reducible assumption) | assumption); first | exact h_ | (have e_ := (Kb.Q_reads' HO214.out).1; omega) | simpa using h_) (Go.bits .xor .u8 (rd y212 (ji22)) a5)).1
                          rw [← Ny216.out] at HP36
                          have HQ36 := Aside0.mk HP36
                          clear HP36
                          refine start_ (n := 16) (S := fun w' => w'.cell? ⟨go25, ((ji22)).toNat, none⟩ = some (.int .u8 (rd y212 (ji22)))) (ds := [15]) #[false, false, false, false, false, false, false, false, false, false, false, false, false, false, false, false] (by kernel_rfl) rfl rfl (hx215_0) (fun hHeld => ?_); refine with_tabW weighbridgelaw05_TcpParses.tab9 weighbridgelaw05_TcpParses.bits9 (fun HT_ HW_ => ?_)
                          generalize w32.drew = w34 at HO214 BK200 HB GG25 HQ36 hf25_0 hx215_0 hx25_0 hHeld ⊢
                          refine pure_ (i := 0) (N := some 45) (v := ?_) (a' := ?_) #[true, false, false, false, false, false, false, false, false, false, false, false, false, false, false, false] rfl rfl (any_of HT_.out (by kernel_rfl)) (fun _ _ _ h => h) (Or.inl ⟨by rfl, ?_⟩) ?_ ?_
                          rotate_left
                          · intro w'
                            go_simp
                            with_reducible rfl
                          rotate_left
                          · simp only [Act.put, List.setIfInBounds_toArray, List.set_cons_zero, List.set_cons_succ, i64_w, i32_w]
                            rfl
                          refine pure_ (i := 1) (N := some 46) (v := ?_) (a' := ?_) #[true, true, false, false, false, false, false, false, false, false, false, false, false, false, false, false] rfl rfl (any_of HT_.out (by kernel_rfl)) (fun _ _ _ h => h) (Or.inl ⟨by rfl, ?_⟩) ?_ ?_
                          rotate_left
                          · intro w'
                            go_simp
                            with_reducible rfl
                          rotate_left
                          · simp only [Act.put, List.setIfInBounds_toArray, List.set_cons_zero, List.set_cons_succ, i64_w, i32_w]
                            rfl
                          refine pure_ (i := 2) (N := some 47) (v := ?_) (a' := ?_) #[true, true, true, false, false, false, false, false, false, false, false, false, false, false, false, false] rfl rfl (any_of HT_.out (by kernel_rfl)) (fun _ _ _ h => h) (Or.inl ⟨by rfl, ?_⟩) ?_ ?_
                          rotate_left
                          · intro w'
                            go_simp
                            with_reducible rfl
                          rotate_left
                          · simp only [Act.put, List.setIfInBounds_toArray, List.set_cons_zero, List.set_cons_succ, i64_w, i32_w]
                            rfl
                          refine pure_ (i := 3) (N := some 48) (v := ?_) (a' := ?_) #[true, true, true, true, false, false, false, false, false, false, false, false, false, false, false, false] rfl rfl (any_of HT_.out (by kernel_rfl)) (fun _ _ _ h => h) (Or.inl ⟨by rfl, ?_⟩) ?_ ?_
                          rotate_left
                          · intro w'
                            go_simp
                            with_reducible rfl
                          rotate_left
                          · simp only [Act.put, List.setIfInBounds_toArray, List.set_cons_zero, List.set_cons_succ, i64_w, i32_w]
                            rfl
                          refine pure_ (i := 4) (N := some 49) (v := ?_) (a' := ?_) #[true, true, true, true, true, false, false, false, false, false, false, false, false, false, false, false] rfl rfl (any_of HT_.out (by kernel_rfl)) (fun _ _ _ h => h) (Or.inl ⟨by rfl, ?_⟩) ?_ ?_
                          rotate_left
                          · intro w'
                            go_simp
                            with_reducible rfl
                          rotate_left
                          · simp only [Act.put, List.setIfInBounds_toArray, List.set_cons_zero, List.set_cons_succ, i64_w, i32_w]
                            rfl
                          refine pure_ (i := 5) (N := some 50) (v := ?_) (a' := ?_) #[true, true, true, true, true, true, false, false, false, false, false, false, false, false, false, false] rfl rfl (any_of HT_.out (by kernel_rfl)) (fun _ _ _ h => h) (Or.inl ⟨by rfl, ?_⟩) ?_ ?_
                          rotate_left
                          · intro w'
                            go_simp
                            with_reducible rfl
                          rotate_left
                          · simp only [Act.put, List.setIfInBounds_toArray, List.set_cons_zero, List.set_cons_succ, i64_w, i32_w]
                            rfl
                          refine pure_ (i := 6) (N := some 51) (v := ?_) (a' := ?_) #[true, true, true, true, true, true, true, false, false, false, false, false, false, false, false, false] rfl rfl (any_of HT_.out (by kernel_rfl)) (fun _ _ _ h => h) (Or.inl ⟨by rfl, ?_⟩) ?_ ?_
                          rotate_left
                          · intro w'
                            go_simp
                            with_reducible rfl
                          rotate_left
                          · simp only [Act.put, List.setIfInBounds_toArray, List.set_cons_zero, List.set_cons_succ, i64_w, i32_w]
                            rfl
                          refine pure_ (i := 7) (N := some 52) (v := ?_) (a' := ?_) #[true, true, true, true, true, true, true, true, false, false, false, false, false, false, false, false] rfl rfl (any_of HT_.out (by kernel_rfl)) (fun _ _ _ h => h) (Or.inl ⟨by rfl, ?_⟩) ?_ ?_
                          rotate_left
                          · intro w'
                            go_simp
                            with_reducible rfl
                          rotate_left
                          · simp only [Act.put, List.setIfInBounds_toArray, List.set_cons_zero, List.set_cons_succ, i64_w, i32_w]
                            rfl
                          refine pure_ (i := 8) (N := some 53) (v := ?_) (a' := ?_) #[true, true, true, true, true, true, true, true, true, false, false, false, false, false, false, false] rfl rfl (any_of HT_.out (by kernel_rfl)) (fun _ _ _ h => h) (Or.inl ⟨by rfl, ?_⟩) ?_ ?_
                          rotate_left
                          · intro w'
                            go_simp
                            with_reducible rfl
                          rotate_left
                          · simp only [Act.put, List.setIfInBounds_toArray, List.set_cons_zero, List.set_cons_succ, i64_w, i32_w]
                            rfl
                          refine pure_ (i := 9) (N := some 54) (v := ?_) (a' := ?_) #[true, true, true, true, true, true, true, true, true, true, false, false, false, false, false, false] rfl rfl (any_of HT_.out (by kernel_rfl)) (fun _ _ _ h => h) (Or.inl ⟨by rfl, ?_⟩) ?_ ?_
                          rotate_left
                          · intro w'
                            go_simp
                            with_reducible rfl
                          rotate_left
                          · simp only [Act.put, List.setIfInBounds_toArray, List.set_cons_zero, List.set_cons_succ, i64_w, i32_w]
                            rfl
                          refine pure_ (i := 10) (N := some 55) (v := ?_) (a' := ?_) #[true, true, true, true, true, true, true, true, true, true, true, false, false, false, false, false] rfl rfl (any_of HT_.out (by kernel_rfl)) (fun _ _ _ h => h) (Or.inl ⟨by rfl, ?_⟩) ?_ ?_
                          rotate_left
                          · intro w'
                            go_simp
                            with_reducible rfl
                          rotate_left
                          · simp only [Act.put, List.setIfInBounds_toArray, List.set_cons_zero, List.set_cons_succ, i64_w, i32_w]
                            rfl
                          refine pure_ (i := 12) (N := some 57) (v := ?_) (a' := ?_) #[true, true, true, true, true, true, true, true, true, true, true, false, true, false, false, false] rfl rfl (any_of HT_.out (by kernel_rfl)) (fun _ _ _ h => h) (Or.inl ⟨by rfl, ?_⟩) ?_ ?_
                          rotate_left
                          · intro w'
                            go_simp
                            with_reducible rfl
                          rotate_left
                          · simp only [Act.put, List.setIfInBounds_toArray, List.set_cons_zero, List.set_cons_succ, i64_w, i32_w]
                            rfl
                          refine take_ (i := 11) (N := some 56) (v := ?_) (a' := ?_) #[true, true, true, true, true, true, true, true, true, true, true, true, true, false, false, false] rfl rfl (take_ofW HT_.out HW_.out (by kernel_rfl)) (fun _ _ _ h => h) (Or.inl ⟨by rfl, ?_⟩) hHeld ?_ ?_
                          rotate_left
                          · intro w' s0
                            go_simp
                            with_reducible rfl
                          rotate_left
                          · simp only [Act.put, List.setIfInBounds_toArray, List.set_cons_zero, List.set_cons_succ, i64_w, i32_w]
                            rfl
                          refine pure_ (i := 13) (N := some 58) (v := ?_) (a' := ?_) #[true, true, true, true, true, true, true, true, true, true, true, true, true, true, false, false] rfl rfl (any_of HT_.out (by kernel_rfl)) (fun _ _ _ h => h) (Or.inl ⟨by rfl, ?_⟩) ?_ ?_
                          rotate_left
                          · intro w'
                            go_simp
                            with_reducible rfl
                          rotate_left
                          · simp only [Act.put, List.setIfInBounds_toArray, List.set_cons_zero, List.set_cons_succ, i64_w, i32_w]
                            rfl
                          refine pure_ (i := 14) (N := some 59) (v := ?_) (a' := ?_) #[true, true, true, true, true, true, true, true, true, true, true, true, true, true, true, false] rfl rfl (any_of HT_.out (by kernel_rfl)) (fun _ _ _ h => h) (Or.inl ⟨by rfl, ?_⟩) ?_ ?_
                          rotate_left
                          · intro w'
                            go_simp
                            with_reducible rfl
                          rotate_left
                          · simp only [Act.put, List.setIfInBounds_toArray, List.set_cons_zero, List.set_cons_succ, i64_w, i32_w]
                            rfl
                          refine last_ (i := 15) (N := none) #[true, true, true, true, true, true, true, true, true, true, true, true, true, true, true, true] rfl rfl (one_of HT_.out (by kernel_rfl)) (by decide) (fun K hK => ?_)
                          refine skip_ (w1 := ?_) (by rfl) rfl ?_ ?_
                          rotate_left
                          · go_simp
                            rfl
                          refine hK.out _ _ ?_
                          clear hK K
                          refine done_ (done_of HT_.out (by kernel_rfl)) ?_
                          have n0_ : Aside0 (Kb.Q (Kd.int .u8) 5 (w34.setCell ⟨go25, ((ji22) : Int).toNat, none⟩ (.int .u8 (Go.bits .xor .u8 (rd y212 (ji22)) a5))) w.heap.size (fun _ => True) (.slice (some ⟨go25, 0, none⟩) y212.length co35) y216) := ⟨by (with_reducible repeat (first | apply Kb.Q_alloc | apply Kb.Q_drewN | apply Kb.Q_drew)); exact HQ36.out⟩
                          have n1_ : Aside0 ((w34.setCell ⟨go25, ((ji22) : Int).toNat, none⟩ (.int .u8 (Go.bits .xor .u8 (rd y212 (ji22)) a5))).heap[gb200]? = some (.cells #[.int .i64 a1_0, .int .i64 a1_1, .int .u32 a1_2, .int .u32 a1_3, .int .i64 a1_4, .int .i64 a1_5, .int .i64 a1_6, .string a1_7] 24 (0, 0))) := ⟨by (with_reducible repeat (first | refine blk_drewN ?_ _ | refine blk_drew ?_ | refine blk_alloc ?_ _)); refine blk_far ?_ (by have h_ := Kb.Q_ne HO214.out BK200.out (by decide); intro e_; exact h_ (by rw [e_]; rfl)) _; (with_reducible repeat (first | refine blk_drewN ?_ _ | refine blk_drew ?_ | refine blk_alloc ?_ _)); exact BK200.out⟩
                          have n2_ : Aside0 (Below w.heap.size w (w34.setCell ⟨go25, ((ji22) : Int).toNat, none⟩ (.int .u8 (Go.bits .xor .u8 (rd y212 (ji22)) a5)))) := ⟨by repeat (first | (with_reducible first | exact HB.out | apply below_alloc | apply pw_below_drewN | apply below_drew1 | refine below_set ?_ GB25.out | refine below_set ?_ GE200.out) | exact HB.out)⟩
                          (try clear HO214)
                          (try clear BK200)
                          (try clear HB)
                          generalize (w34.setCell ⟨go25, ((ji22) : Int).toNat, none⟩ (.int .u8 (Go.bits .xor .u8 (rd y212 (ji22)) a5))) = w37 at n0_ n1_ n2_ ⊢
                          have HO214 := n0_
                          have BK200 := n1_
                          have HB := n2_
                          clear n0_ n1_ n2_
                          have hcv38 := Kb.Q_string (P := Try.prog) Try.underlying38 Try.underlying5 Try.underlying9 (by exact HO214.out)
                          try go_wp2_with (first | ((with_reducible refine gate_callee (f := 20) rfl ?_); refine goesL_ (some 64) rfl rfl Try.func20 (by kernel_rfl) rfl #[.string (strOfNums y216)] rfl (by (try simp only [List.map_toArray, List.map_cons, List.map_nil]); first | done | rfl | (simp only [List.length_drop, List.length_take]; rfl)) ?_; (with_reducible refine (tcp_Parse.calls (strOfNums y216) t217 t218 t219 t220 t221 t222 t223 t224 t225 t226 _ A26.out).mono ?_); rintro e w39 ⟨rfl, hb⟩; (try clear A26); refine ⟨_, rfl, ?_⟩; have n0_ := Aside0.mk (Kb.Q_below (by (with_reducible repeat (first | apply Kb.Q_alloc | apply Kb.Q_drewN | apply Kb.Q_drew)); exact HO214.out) hb); have n1_ := Aside0.mk (blk_below (g := gb200) (o := .cells #[.int .i64 a1_0, .int .i64 a1_1, .int .u32 a1_2, .int .u32 a1_3, .int .i64 a1_4, .int .i64 a1_5, .int .i64 a1_6, .string a1_7] 24 (0, 0)) (by (with_reducible repeat (first | refine blk_drewN ?_ _ | refine blk_drew ?_ | refine blk_alloc ?_ _)); exact BK200.out) hb); have n2_ := Aside0.mk (below_step (by repeat (first | (with_reducible first | exact HB.out | apply below_alloc | apply pw_below_drewN | apply below_drew1 | refine below_set ?_ GE200.out) | exact HB.out)) hb); clear HO214; clear BK200; clear HB; have HO214 := n0_; have BK200 := n1_; have HB := n2_; clear n0_ n1_ n2_; (try clear hb); (try clear hb2); (try clear hk); (try clear hi)) | ((with_reducible refine gate_dst (N := 17) rfl ?_); refine box_event ?hg (N := 17) ?hd (cs := #[.int .i64 0, .int .i64 0, .int .u32 0, .int .u32 0, .int .i64 0, .int .i64 0, .int .i64 0, .string (⟨#[]⟩ : ByteArray)]) (t := 24) ?hr ?_; (case hd => rfl); (case hg => rfl); (case hr => first | (go_simp; done) | (go_simp; rfl)); intro gb227 hg w40 hbox hb; have n0_ := Aside0.mk (Kb.Q_below (by (with_reducible repeat (first | apply Kb.Q_alloc | apply Kb.Q_drewN | apply Kb.Q_drew)); exact HO214.out) hb); have n1_ := Aside0.mk (blk_below (g := gb200) (o := .cells #[.int .i64 a1_0, .int .i64 a1_1, .int .u32 a1_2, .int .u32 a1_3, .int .i64 a1_4, .int .i64 a1_5, .int .i64 a1_6, .string a1_7] 24 (0, 0)) (by (with_reducible repeat (first | refine blk_drewN ?_ _ | refine blk_drew ?_ | refine blk_alloc ?_ _)); exact BK200.out) hb); have n2_ := Aside0.mk (below_step (by repeat (first | (with_reducible first | exact HB.out | apply below_alloc | apply pw_below_drewN | apply below_drew1 | refine below_set ?_ GE200.out) | exact HB.out)) hb); have n3_ := Aside0.mk (hbox); have n4_ := Aside0.mk ((by rw [hg]; exact (below_size (by repeat (first | (with_reducible first | exact HB.out | apply below_alloc | apply pw_below_drewN | apply below_drew1 | refine below_set ?_ GE200.out) | exact HB.out))) : w.heap.size ≤ gb227)); have n5_ := Aside0.mk ((by rw [hg]; exact (below_size (by repeat (first | (with_reducible first | exact HB.out | apply below_alloc | apply pw_below_drewN | apply below_drew1 | refine below_set ?_ GE200.out) | exact HB.out))) : w.heap.size ≤ gb227)); have n6_ := Aside0.mk ((by rw [hg]; exact Nat.ne_of_lt (blk_lt (g := gb200) (o := .cells #[.int .i64 a1_0, .int .i64 a1_1, .int .u32 a1_2, .int .u32 a1_3, .int .i64 a1_4, .int .i64 a1_5, .int .i64 a1_6, .string a1_7] 24 (0, 0)) (by (with_reducible repeat (first | refine blk_drewN ?_ _ | refine blk_drew ?_ | refine blk_alloc ?_ _)); exact BK200.out)) : gb200 ≠ gb227)); have n7_ := Aside0.mk ((by rw [hg]; exact Nat.ne_of_gt (blk_lt (g := gb200) (o := .cells #[.int .i64 a1_0, .int .i64 a1_1, .int .u32 a1_2, .int .u32 a1_3, .int .i64 a1_4, .int .i64 a1_5, .int .i64 a1_6, .string a1_7] 24 (0, 0)) (by (with_reducible repeat (first | refine blk_drewN ?_ _ | refine blk_drew ?_ | refine blk_alloc ?_ _)); exact BK200.out)) : gb227 ≠ gb200)); clear HO214; clear BK200; clear HB; have HO214 := n0_; have BK200 := n1_; have HB := n2_; have BK227 := n3_; have GW227 := n4_; have GE227 := n5_; have NB200_227 := n6_; have NB227_200 := n7_; clear n0_ n1_ n2_ n3_ n4_ n5_ n6_ n7_; clear hb hbox hg; have hnb41 := NB227_200.out; have hnc41 := NB200_227.out; have hcz42_0 : w40.cell? ⟨gb227, 0, none⟩ = some (.int .i64 0) := (blk_cell BK227.out 0).trans rfl; have hcz42_1 : w40.cell? ⟨gb227, 1, none⟩ = some (.int .i64 0) := (blk_cell BK227.out 1).trans rfl; have hcz42_2 : w40.cell? ⟨gb227, 2, none⟩ = some (.int .u32 0) := (blk_cell BK227.out 2).trans rfl; have hcz42_3 : w40.cell? ⟨gb227, 3, none⟩ = some (.int .u32 0) := (blk_cell BK227.out 3).trans rfl; have hcz42_4 : w40.cell? ⟨gb227, 4, none⟩ = some (.int .i64 0) := (blk_cell BK227.out 4).trans rfl; have hcz42_5 : w40.cell? ⟨gb227, 5, none⟩ = some (.int .i64 0) := (blk_cell BK227.out 5).trans rfl; have hcz42_6 : w40.cell? ⟨gb227, 6, none⟩ = some (.int .i64 0) := (blk_cell BK227.out 6).trans rfl; have hcz42_7 : w40.cell? ⟨gb227, 7, none⟩ = some (.string (⟨#[]⟩ : ByteArray)) := (blk_cell BK227.out 7).trans rfl; have hfz42_0 := blk_frozen BK227.out 0; have hfz42_1 := blk_frozen BK227.out 1; have hfz42_2 := blk_frozen BK227.out 2; have hfz42_3 := blk_frozen BK227.out 3; have hfz42_4 := blk_frozen BK227.out 4; have hfz42_5 := blk_frozen BK227.out 5; have hfz42_6 := blk_frozen BK227.out 6; have hfz42_7 := blk_frozen BK227.out 7) | ((with_reducible refine gate_callee (f := 21) rfl ?_); refine goesL_ (some 70) rfl rfl Try.func21 (by kernel_rfl) rfl #[.string (strOfNums y216)] rfl (by (try simp only [List.map_toArray, List.map_cons, List.map_nil]); first | done | rfl | (simp only [List.length_drop, List.length_take]; rfl)) ?_; (with_reducible refine (weighbridgeref05_Parse.calls (strOfNums y216) t228 t229 t230 t231 t232 t233 t234 t235 t236 t237 _ A27.out).mono ?_); rintro e w43 ⟨rfl, hb⟩; (try clear A27); refine ⟨_, rfl, ?_⟩; have n0_ := Aside0.mk (Kb.Q_below (by (with_reducible repeat (first | apply Kb.Q_alloc | apply Kb.Q_drewN | apply Kb.Q_drew)); exact (Kb.Q_mono (Kb.Q_far (p := ⟨gb227, 7, none⟩) (Kb.Q_far (p := ⟨gb227, 6, none⟩) (Kb.Q_far (p := ⟨gb227, 5, none⟩) (Kb.Q_far (p := ⟨gb227, 4, none⟩) (Kb.Q_far (p := ⟨gb227, 3, none⟩) (Kb.Q_far (p := ⟨gb227, 2, none⟩) (Kb.Q_far (p := ⟨gb227, 1, none⟩) (Kb.Q_far (p := ⟨gb227, 0, none⟩) (Kb.Q_types HO214.out BK227.out (by decide)) (fun _ hk => hk.2) (.int .i64 t217)) (fun _ hk => hk.2) (.int .i64 t218)) (fun _ hk => hk.2) (.int .u32 t219)) (fun _ hk => hk.2) (.int .u32 t220)) (fun _ hk => hk.2) (.int .i64 t221)) (fun _ hk => hk.2) (.int .i64 t222)) (fun _ hk => hk.2) (.int .i64 t223)) (fun _ hk => hk.2) (.string t224)) (fun _ h_ => h_.1))) hb); have n1_ := Aside0.mk (blk_below (g := gb200) (o := .cells #[.int .i64 a1_0, .int .i64 a1_1, .int .u32 a1_2, .int .u32 a1_3, .int .i64 a1_4, .int .i64 a1_5, .int .i64 a1_6, .string a1_7] 24 (0, 0)) (by (with_reducible repeat (first | refine blk_drewN ?_ _ | refine blk_drew ?_ | refine blk_alloc ?_ _)); refine blk_far ?_ NB200_227.out _; (with_reducible repeat (first | refine blk_drewN ?_ _ | refine blk_drew ?_ | refine blk_alloc ?_ _)); refine blk_far ?_ NB200_227.out _; (with_reducible repeat (first | refine blk_drewN ?_ _ | refine blk_drew ?_ | refine blk_alloc ?_ _)); refine blk_far ?_ NB200_227.out _; (with_reducible repeat (first | refine blk_drewN ?_ _ | refine blk_drew ?_ | refine blk_alloc ?_ _)); refine blk_far ?_ NB200_227.out _; (with_reducible repeat (first | refine blk_drewN ?_ _ | refine blk_drew ?_ | refine blk_alloc ?_ _)); refine blk_far ?_ NB200_227.out _; (with_reducible repeat (first | refine blk_drewN ?_ _ | refine blk_drew ?_ | refine blk_alloc ?_ _)); refine blk_far ?_ NB200_227.out _; (with_reducible repeat (first | refine blk_drewN ?_ _ | refine blk_drew ?_ | refine blk_alloc ?_ _)); refine blk_far ?_ NB200_227.out _; (with_reducible repeat (first | refine blk_drewN ?_ _ | refine blk_drew ?_ | refine blk_alloc ?_ _)); refine blk_far ?_ NB200_227.out _; (with_reducible repeat (first | refine blk_drewN ?_ _ | refine blk_drew ?_ | refine blk_alloc ?_ _)); exact BK200.out) hb); have n2_ := Aside0.mk (blk_below (g := gb227) (o := .cells #[.int .i64 t217, .int .i64 t218, .int .u32 t219, .int .u32 t220, .int .i64 t221, .int .i64 t222, .int .i64 t223, .string t224] 24 (0, 0)) (by (with_reducible repeat (first | refine blk_drewN ?_ _ | refine blk_drew ?_ | refine blk_alloc ?_ _)); refine blk_put (cs := #[.int .i64 t217, .int .i64 t218, .int .u32 t219, .int .u32 t220, .int .i64 t221, .int .i64 t222, .int .i64 t223, .string (⟨#[]⟩ : ByteArray)]) ?_ 7 _ rfl; (with_reducible repeat (first | refine blk_drewN ?_ _ | refine blk_drew ?_ | refine blk_alloc ?_ _)); refine blk_put (cs := #[.int .i64 t217, .int .i64 t218, .int .u32 t219, .int .u32 t220, .int .i64 t221, .int .i64 t222, .int .i64 0, .string (⟨#[]⟩ : ByteArray)]) ?_ 6 _ rfl; (with_reducible repeat (first | refine blk_drewN ?_ _ | refine blk_drew ?_ | refine blk_alloc ?_ _)); refine blk_put (cs := #[.int .i64 t217, .int .i64 t218, .int .u32 t219, .int .u32 t220, .int .i64 t221, .int .i64 0, .int .i64 0, .string (⟨#[]⟩ : ByteArray)]) ?_ 5 _ rfl; (with_reducible repeat (first | refine blk_drewN ?_ _ | refine blk_drew ?_ | refine blk_alloc ?_ _)); refine blk_put (cs := #[.int .i64 t217, .int .i64 t218, .int .u32 t219, .int .u32 t220, .int .i64 0, .int .i64 0, .int .i64 0, .string (⟨#[]⟩ : ByteArray)]) ?_ 4 _ rfl; (with_reducible repeat (first | refine blk_drewN ?_ _ | refine blk_drew ?_ | refine blk_alloc ?_ _)); refine blk_put (cs := #[.int .i64 t217, .int .i64 t218, .int .u32 t219, .int .u32 0, .int .i64 0, .int .i64 0, .int .i64 0, .string (⟨#[]⟩ : ByteArray)]) ?_ 3 _ rfl; (with_reducible repeat (first | refine blk_drewN ?_ _ | refine blk_drew ?_ | refine blk_alloc ?_ _)); refine blk_put (cs := #[.int .i64 t217, .int .i64 t218, .int .u32 0, .int .u32 0, .int .i64 0, .int .i64 0, .int .i64 0, .string (⟨#[]⟩ : ByteArray)]) ?_ 2 _ rfl; (with_reducible repeat (first | refine blk_drewN ?_ _ | refine blk_drew ?_ | refine blk_alloc ?_ _)); refine blk_put (cs := #[.int .i64 t217, .int .i64 0, .int .u32 0, .int .u32 0, .int .i64 0, .int .i64 0, .int .i64 0, .string (⟨#[]⟩ : ByteArray)]) ?_ 1 _ rfl; (with_reducible repeat (first | refine blk_drewN ?_ _ | refine blk_drew ?_ | refine blk_alloc ?_ _)); refine blk_put (cs := #[.int .i64 0, .int .i64 0, .int .u32 0, .int .u32 0, .int .i64 0, .int .i64 0, .int .i64 0, .string (⟨#[]⟩ : ByteArray)]) ?_ 0 _ rfl; (with_reducible repeat (first | refine blk_drewN ?_ _ | refine blk_drew ?_ | refine blk_alloc ?_ _)); exact BK227.out) hb); have n3_ := Aside0.mk (below_step (by repeat (first | (with_reducible first | exact HB.out | apply below_alloc | apply pw_below_drewN | apply below_drew1 | refine below_set ?_ GE200.out | refine below_set ?_ GE227.out) | exact HB.out)) hb); clear HO214; clear BK200; clear BK227; clear HB; have HO214 := n0_; have BK200 := n1_; have BK227 := n2_; have HB := n3_; clear n0_ n1_ n2_ n3_; (try clear hb); (try clear hb2); (try clear hk); (try clear hi)) | ((with_reducible refine gate_dst (N := 20) rfl ?_); refine box_event ?hg (N := 20) ?hd (cs := #[.int .i64 0, .int .i64 0, .int .u32 0, .int .u32 0, .int .i64 0, .int .i64 0, .int .i64 0, .string (⟨#[]⟩ : ByteArray)]) (t := 31) ?hr ?_; (case hd => rfl); (case hg => rfl); (case hr => first | (go_simp; done) | (go_simp; rfl)); intro gb238 hg w44 hbox hb; have n0_ := Aside0.mk (Kb.Q_below (by (with_reducible repeat (first | apply Kb.Q_alloc | apply Kb.Q_drewN | apply Kb.Q_drew)); exact HO214.out) hb); have n1_ := Aside0.mk (blk_below (g := gb200) (o := .cells #[.int .i64 a1_0, .int .i64 a1_1, .int .u32 a1_2, .int .u32 a1_3, .int .i64 a1_4, .int .i64 a1_5, .int .i64 a1_6, .string a1_7] 24 (0, 0)) (by (with_reducible repeat (first | refine blk_drewN ?_ _ | refine blk_drew ?_ | refine blk_alloc ?_ _)); exact BK200.out) hb); have n2_ := Aside0.mk (blk_below (g := gb227) (o := .cells #[.int .i64 t217, .int .i64 t218, .int .u32 t219, .int .u32 t220, .int .i64 t221, .int .i64 t222, .int .i64 t223, .string t224] 24 (0, 0)) (by (with_reducible repeat (first | refine blk_drewN ?_ _ | refine blk_drew ?_ | refine blk_alloc ?_ _)); exact BK227.out) hb); have n3_ := Aside0.mk (below_step (by repeat (first | (with_reducible first | exact HB.out | apply below_alloc | apply pw_below_drewN | apply below_drew1 | refine below_set ?_ GE200.out | refine below_set ?_ GE227.out) | exact HB.out)) hb); have n4_ := Aside0.mk (hbox); have n5_ := Aside0.mk ((by rw [hg]; exact (below_size (by repeat (first | (with_reducible first | exact HB.out | apply below_alloc | apply pw_below_drewN | apply below_drew1 | refine below_set ?_ GE200.out | refine below_set ?_ GE227.out) | exact HB.out))) : w.heap.size ≤ gb238)); have n6_ := Aside0.mk ((by rw [hg]; exact (below_size (by repeat (first | (with_reducible first | exact HB.out | apply below_alloc | apply pw_below_drewN | apply below_drew1 | refine below_set ?_ GE200.out | refine below_set ?_ GE227.out) | exact HB.out))) : w.heap.size ≤ gb238)); have n7_ := Aside0.mk ((by rw [hg]; exact Nat.ne_of_lt (blk_lt (g := gb200) (o := .cells #[.int .i64 a1_0, .int .i64 a1_1, .int .u32 a1_2, .int .u32 a1_3, .int .i64 a1_4, .int .i64 a1_5, .int .i64 a1_6, .string a1_7] 24 (0, 0)) (by (with_reducible repeat (first | refine blk_drewN ?_ _ | refine blk_drew ?_ | refine blk_alloc ?_ _)); exact BK200.out)) : gb200 ≠ gb238)); have n8_ := Aside0.mk ((by rw [hg]; exact Nat.ne_of_gt (blk_lt (g := gb200) (o := .cells #[.int .i64 a1_0, .int .i64 a1_1, .int .u32 a1_2, .int .u32 a1_3, .int .i64 a1_4, .int .i64 a1_5, .int .i64 a1_6, .string a1_7] 24 (0, 0)) (by (with_reducible repeat (first | refine blk_drewN ?_ _ | refine blk_drew ?_ | refine blk_alloc ?_ _)); exact BK200.out)) : gb238 ≠ gb200)); have n9_ := Aside0.mk ((by rw [hg]; exact Nat.ne_of_lt (blk_lt (g := gb227) (o := .cells #[.int .i64 t217, .int .i64 t218, .int .u32 t219, .int .u32 t220, .int .i64 t221, .int .i64 t222, .int .i64 t223, .string t224] 24 (0, 0)) (by (with_reducible repeat (first | refine blk_drewN ?_ _ | refine blk_drew ?_ | refine blk_alloc ?_ _)); exact BK227.out)) : gb227 ≠ gb238)); have n10_ := Aside0.mk ((by rw [hg]; exact Nat.ne_of_gt (blk_lt (g := gb227) (o := .cells #[.int .i64 t217, .int .i64 t218, .int .u32 t219, .int .u32 t220, .int .i64 t221, .int .i64 t222, .int .i64 t223, .string t224] 24 (0, 0)) (by (with_reducible repeat (first | refine blk_drewN ?_ _ | refine blk_drew ?_ | refine blk_alloc ?_ _)); exact BK227.out)) : gb238 ≠ gb227)); clear HO214; clear BK200; clear BK227; clear HB; have HO214 := n0_; have BK200 := n1_; have BK227 := n2_; have HB := n3_; have BK238 := n4_; have GW238 := n5_; have GE238 := n6_; have NB200_238 := n7_; have NB238_200 := n8_; have NB227_238 := n9_; have NB238_227 := n10_; clear n0_ n1_ n2_ n3_ n4_ n5_ n6_ n7_ n8_ n9_ n10_; clear hb hbox hg; have hnb45 := NB238_200.out; have hnc45 := NB200_238.out; have hnb46 := NB238_227.out; have hnc46 := NB227_238.out; have hcz47_0 : w44.cell? ⟨gb238, 0, none⟩ = some (.int .i64 0) := (blk_cell BK238.out 0).trans rfl; have hcz47_1 : w44.cell? ⟨gb238, 1, none⟩ = some (.int .i64 0) := (blk_cell BK238.out 1).trans rfl; have hcz47_2 : w44.cell? ⟨gb238, 2, none⟩ = some (.int .u32 0) := (blk_cell BK238.out 2).trans rfl; have hcz47_3 : w44.cell? ⟨gb238, 3, none⟩ = some (.int .u32 0) := (blk_cell BK238.out 3).trans rfl; have hcz47_4 : w44.cell? ⟨gb238, 4, none⟩ = some (.int .i64 0) := (blk_cell BK238.out 4).trans rfl; have hcz47_5 : w44.cell? ⟨gb238, 5, none⟩ = some (.int .i64 0) := (blk_cell BK238.out 5).trans rfl; have hcz47_6 : w44.cell? ⟨gb238, 6, none⟩ = some (.int .i64 0) := (blk_cell BK238.out 6).trans rfl; have hcz47_7 : w44.cell? ⟨gb238, 7, none⟩ = some (.string (⟨#[]⟩ : ByteArray)) := (blk_cell BK238.out 7).trans rfl; have hfz47_0 := blk_frozen BK238.out 0; have hfz47_1 := blk_frozen BK238.out 1; have hfz47_2 := blk_frozen BK238.out 2; have hfz47_3 := blk_frozen BK238.out 3; have hfz47_4 := blk_frozen BK238.out 4; have hfz47_5 := blk_frozen BK238.out 5; have hfz47_6 := blk_frozen BK238.out 6; have hfz47_7 := blk_frozen BK238.out 7))
                          have n0_ : Aside0 (Kb.Q (Kd.int .u8) 5 ((((((((w44.setCell ⟨gb238, 0, none⟩ (.int .i64 t228)).setCell ⟨gb238, 1, none⟩ (.int .i64 t229)).setCell ⟨gb238, 2, none⟩ (.int .u32 t230)).setCell ⟨gb238, 3, none⟩ (.int .u32 t231)).setCell ⟨gb238, 4, none⟩ (.int .i64 t232)).setCell ⟨gb238, 5, none⟩ (.int .i64 t233)).setCell ⟨gb238, 6, none⟩ (.int .i64 t234)).setCell ⟨gb238, 7, none⟩ (.string t235)) w.heap.size (fun _ => True) (.slice (some ⟨go25, 0, none⟩) y212.length co35) y216) := ⟨by (with_reducible repeat (first | apply Kb.Q_alloc | apply Kb.Q_drewN | apply Kb.Q_drew)); exact Kb.Q_mono (Kb.Q_far (p := ⟨gb238, 7, none⟩) (Kb.Q_far (p := ⟨gb238, 6, none⟩) (Kb.Q_far (p := ⟨gb238, 5, none⟩) (Kb.Q_far (p := ⟨gb238, 4, none⟩) (Kb.Q_far (p := ⟨gb238, 3, none⟩) (Kb.Q_far (p := ⟨gb238, 2, none⟩) (Kb.Q_far (p := ⟨gb238, 1, none⟩) (Kb.Q_far (p := ⟨gb238, 0, none⟩) (Kb.Q_types HO214.out BK238.out (by decide)) (fun _ hk => hk.2) (.int .i64 t228)) (fun _ hk => hk.2) (.int .i64 t229)) (fun _ hk => hk.2) (.int .u32 t230)) (fun _ hk => hk.2) (.int .u32 t231)) (fun _ hk => hk.2) (.int .i64 t232)) (fun _ hk => hk.2) (.int .i64 t233)) (fun _ hk => hk.2) (.int .i64 t234)) (fun _ hk => hk.2) (.string t235)) (fun _ hk => trivial)⟩
                          have n1_ : Aside0 (((((((((w44.setCell ⟨gb238, 0, none⟩ (.int .i64 t228)).setCell ⟨gb238, 1, none⟩ (.int .i64 t229)).setCell ⟨gb238, 2, none⟩ (.int .u32 t230)).setCell ⟨gb238, 3, none⟩ (.int .u32 t231)).setCell ⟨gb238, 4, none⟩ (.int .i64 t232)).setCell ⟨gb238, 5, none⟩ (.int .i64 t233)).setCell ⟨gb238, 6, none⟩ (.int .i64 t234)).setCell ⟨gb238, 7, none⟩ (.string t235)).heap[gb200]? = some (.cells #[.int .i64 a1_0, .int .i64 a1_1, .int .u32 a1_2, .int .u32 a1_3, .int .i64 a1_4, .int .i64 a1_5, .int .i64 a1_6, .string a1_7] 24 (0, 0))) := ⟨by (with_reducible repeat (first | refine blk_drewN ?_ _ | refine blk_drew ?_ | refine blk_alloc ?_ _)); refine blk_far ?_ NB200_238.out _; (with_reducible repeat (first | refine blk_drewN ?_ _ | refine blk_drew ?_ | refine blk_alloc ?_ _)); refine blk_far ?_ NB200_238.out _; (with_reducible repeat (first | refine blk_drewN ?_ _ | refine blk_drew ?_ | refine blk_alloc ?_ _)); refine blk_far ?_ NB200_238.out _; (with_reducible repeat (first | refine blk_drewN ?_ _ | refine blk_drew ?_ | refine blk_alloc ?_ _)); refine blk_far ?_ NB200_238.out _; (with_reducible repeat (first | refine blk_drewN ?_ _ | refine blk_drew ?_ | refine blk_alloc ?_ _)); refine blk_far ?_ NB200_238.out _; (with_reducible repeat (first | refine blk_drewN ?_ _ | refine blk_drew ?_ | refine blk_alloc ?_ _)); refine blk_far ?_ NB200_238.out _; (with_reducible repeat (first | refine blk_drewN ?_ _ | refine blk_drew ?_ | refine blk_alloc ?_ _)); refine blk_far ?_ NB200_238.out _; (with_reducible repeat (first | refine blk_drewN ?_ _ | refine blk_drew ?_ | refine blk_alloc ?_ _)); refine blk_far ?_ NB200_238.out _; (with_reducible repeat (first | refine blk_drewN ?_ _ | refine blk_drew ?_ | refine blk_alloc ?_ _)); exact BK200.out⟩
                          have n2_ : Aside0 (((((((((w44.setCell ⟨gb238, 0, none⟩ (.int .i64 t228)).setCell ⟨gb238, 1, none⟩ (.int .i64 t229)).setCell ⟨gb238, 2, none⟩ (.int .u32 t230)).setCell ⟨gb238, 3, none⟩ (.int .u32 t231)).setCell ⟨gb238, 4, none⟩ (.int .i64 t232)).setCell ⟨gb238, 5, none⟩ (.int .i64 t233)).setCell ⟨gb238, 6, none⟩ (.int .i64 t234)).setCell ⟨gb238, 7, none⟩ (.string t235)).heap[gb227]? = some (.cells #[.int .i64 t217, .int .i64 t218, .int .u32 t219, .int .u32 t220, .int .i64 t221, .int .i64 t222, .int .i64 t223, .string t224] 24 (0, 0))) := ⟨by (with_reducible repeat (first | refine blk_drewN ?_ _ | refine blk_drew ?_ | refine blk_alloc ?_ _)); refine blk_far ?_ NB227_238.out _; (with_reducible repeat (first | refine blk_drewN ?_ _ | refine blk_drew ?_ | refine blk_alloc ?_ _)); refine blk_far ?_ NB227_238.out _; (with_reducible repeat (first | refine blk_drewN ?_ _ | refine blk_drew ?_ | refine blk_alloc ?_ _)); refine blk_far ?_ NB227_238.out _; (with_reducible repeat (first | refine blk_drewN ?_ _ | refine blk_drew ?_ | refine blk_alloc ?_ _)); refine blk_far ?_ NB227_238.out _; (with_reducible repeat (first | refine blk_drewN ?_ _ | refine blk_drew ?_ | refine blk_alloc ?_ _)); refine blk_far ?_ NB227_238.out _; (with_reducible repeat (first | refine blk_drewN ?_ _ | refine blk_drew ?_ | refine blk_alloc ?_ _)); refine blk_far ?_ NB227_238.out _; (with_reducible repeat (first | refine blk_drewN ?_ _ | refine blk_drew ?_ | refine blk_alloc ?_ _)); refine blk_far ?_ NB227_238.out _; (with_reducible repeat (first | refine blk_drewN ?_ _ | refine blk_drew ?_ | refine blk_alloc ?_ _)); refine blk_far ?_ NB227_238.out _; (with_reducible repeat (first | refine blk_drewN ?_ _ | refine blk_drew ?_ | refine blk_alloc ?_ _)); exact BK227.out⟩
                          have n3_ : Aside0 (((((((((w44.setCell ⟨gb238, 0, none⟩ (.int .i64 t228)).setCell ⟨gb238, 1, none⟩ (.int .i64 t229)).setCell ⟨gb238, 2, none⟩ (.int .u32 t230)).setCell ⟨gb238, 3, none⟩ (.int .u32 t231)).setCell ⟨gb238, 4, none⟩ (.int .i64 t232)).setCell ⟨gb238, 5, none⟩ (.int .i64 t233)).setCell ⟨gb238, 6, none⟩ (.int .i64 t234)).setCell ⟨gb238, 7, none⟩ (.string t235)).heap[gb238]? = some (.cells #[.int .i64 t228, .int .i64 t229, .int .u32 t230, .int .u32 t231, .int .i64 t232, .int .i64 t233, .int .i64 t234, .string t235] 31 (0, 0))) := ⟨by (with_reducible repeat (first | refine blk_drewN ?_ _ | refine blk_drew ?_ | refine blk_alloc ?_ _)); refine blk_put (cs := #[.int .i64 t228, .int .i64 t229, .int .u32 t230, .int .u32 t231, .int .i64 t232, .int .i64 t233, .int .i64 t234, .string (⟨#[]⟩ : ByteArray)]) ?_ 7 _ rfl; (with_reducible repeat (first | refine blk_drewN ?_ _ | refine blk_drew ?_ | refine blk_alloc ?_ _)); refine blk_put (cs := #[.int .i64 t228, .int .i64 t229, .int .u32 t230, .int .u32 t231, .int .i64 t232, .int .i64 t233, .int .i64 0, .string (⟨#[]⟩ : ByteArray)]) ?_ 6 _ rfl; (with_reducible repeat (first | refine blk_drewN ?_ _ | refine blk_drew ?_ | refine blk_alloc ?_ _)); refine blk_put (cs := #[.int .i64 t228, .int .i64 t229, .int .u32 t230, .int .u32 t231, .int .i64 t232, .int .i64 0, .int .i64 0, .string (⟨#[]⟩ : ByteArray)]) ?_ 5 _ rfl; (with_reducible repeat (first | refine blk_drewN ?_ _ | refine blk_drew ?_ | refine blk_alloc ?_ _)); refine blk_put (cs := #[.int .i64 t228, .int .i64 t229, .int .u32 t230, .int .u32 t231, .int .i64 0, .int .i64 0, .int .i64 0, .string (⟨#[]⟩ : ByteArray)]) ?_ 4 _ rfl; (with_reducible repeat (first | refine blk_drewN ?_ _ | refine blk_drew ?_ | refine blk_alloc ?_ _)); refine blk_put (cs := #[.int .i64 t228, .int .i64 t229, .int .u32 t230, .int .u32 0, .int .i64 0, .int .i64 0, .int .i64 0, .string (⟨#[]⟩ : ByteArray)]) ?_ 3 _ rfl; (with_reducible repeat (first | refine blk_drewN ?_ _ | refine blk_drew ?_ | refine blk_alloc ?_ _)); refine blk_put (cs := #[.int .i64 t228, .int .i64 t229, .int .u32 0, .int .u32 0, .int .i64 0, .int .i64 0, .int .i64 0, .string (⟨#[]⟩ : ByteArray)]) ?_ 2 _ rfl; (with_reducible repeat (first | refine blk_drewN ?_ _ | refine blk_drew ?_ | refine blk_alloc ?_ _)); refine blk_put (cs := #[.int .i64 t228, .int .i64 0, .int .u32 0, .int .u32 0, .int .i64 0, .int .i64 0, .int .i64 0, .string (⟨#[]⟩ : ByteArray)]) ?_ 1 _ rfl; (with_reducible repeat (first | refine blk_drewN ?_ _ | refine blk_drew ?_ | refine blk_alloc ?_ _)); refine blk_put (cs := #[.int .i64 0, .int .i64 0, .int .u32 0, .int .u32 0, .int .i64 0, .int .i64 0, .int .i64 0, .string (⟨#[]⟩ : ByteArray)]) ?_ 0 _ rfl; (with_reducible repeat (first | refine blk_drewN ?_ _ | refine blk_drew ?_ | refine blk_alloc ?_ _)); exact BK238.out⟩
                          have n4_ : Aside0 (Below w.heap.size w ((((((((w44.setCell ⟨gb238, 0, none⟩ (.int .i64 t228)).setCell ⟨gb238, 1, none⟩ (.int .i64 t229)).setCell ⟨gb238, 2, none⟩ (.int .u32 t230)).setCell ⟨gb238, 3, none⟩ (.int .u32 t231)).setCell ⟨gb238, 4, none⟩ (.int .i64 t232)).setCell ⟨gb238, 5, none⟩ (.int .i64 t233)).setCell ⟨gb238, 6, none⟩ (.int .i64 t234)).setCell ⟨gb238, 7, none⟩ (.string t235))) := ⟨by repeat (first | (with_reducible first | exact HB.out | apply below_alloc | apply pw_below_drewN | apply below_drew1 | refine below_set ?_ GE200.out | refine below_set ?_ GE227.out | refine below_set ?_ GE238.out) | exact HB.out)⟩
                          (try clear HO214)
                          (try clear BK200)
                          (try clear BK227)
                          (try clear BK238)
                          (try clear HB)
                          generalize ((((((((w44.setCell ⟨gb238, 0, none⟩ (.int .i64 t228)).setCell ⟨gb238, 1, none⟩ (.int .i64 t229)).setCell ⟨gb238, 2, none⟩ (.int .u32 t230)).setCell ⟨gb238, 3, none⟩ (.int .u32 t231)).setCell ⟨gb238, 4, none⟩ (.int .i64 t232)).setCell ⟨gb238, 5, none⟩ (.int .i64 t233)).setCell ⟨gb238, 6, none⟩ (.int .i64 t234)).setCell ⟨gb238, 7, none⟩ (.string t235)) = w48 at n0_ n1_ n2_ n3_ n4_ ⊢
                          have HO214 := n0_
                          have BK200 := n1_
                          have BK227 := n2_
                          have BK238 := n3_
                          have HB := n4_
                          clear n0_ n1_ n2_ n3_ n4_
                          have n0_ := Aside0.mk (Kb.Q_drew HO214.out)
                          have n1_ := Aside0.mk (blk_drew BK200.out)
                          have n2_ := Aside0.mk (blk_drew BK227.out)
                          have n3_ := Aside0.mk (blk_drew BK238.out)
                          have n4_ := Aside0.mk (below_drew1 HB.out)
                          clear HO214
                          clear BK200
                          clear BK227
                          clear BK238
                          clear HB
                          have HO214 := n0_
                          have BK200 := n1_
                          have BK227 := n2_
                          have BK238 := n3_
                          have HB := n4_
                          clear n0_ n1_ n2_ n3_ n4_
                          refine start_ (n := 18) (S := fun w' => w'.cell? ⟨gb227, 0, none⟩ = some (.int .i64 t217) ∧ w'.cell? ⟨gb227, 1, none⟩ = some (.int .i64 t218) ∧ w'.cell? ⟨gb227, 2, none⟩ = some (.int .u32 t219) ∧ w'.cell? ⟨gb227, 3, none⟩ = some (.int .u32 t220) ∧ w'.cell? ⟨gb227, 4, none⟩ = some (.int .i64 t221) ∧ w'.cell? ⟨gb227, 5, none⟩ = some (.int .i64 t222) ∧ w'.cell? ⟨gb227, 6, none⟩ = some (.int .i64 t223) ∧ w'.cell? ⟨gb227, 7, none⟩ = some (.string t224) ∧ w'.cell? ⟨gb238, 0, none⟩ = some (.int .i64 t228) ∧ w'.cell? ⟨gb238, 1, none⟩ = some (.int .i64 t229) ∧ w'.cell? ⟨gb238, 2, none⟩ = some (.int .u32 t230) ∧ w'.cell? ⟨gb238, 3, none⟩ = some (.int .u32 t231) ∧ w'.cell? ⟨gb238, 4, none⟩ = some (.int .i64 t232) ∧ w'.cell? ⟨gb238, 5, none⟩ = some (.int .i64 t233) ∧ w'.cell? ⟨gb238, 6, none⟩ = some (.int .i64 t234) ∧ w'.cell? ⟨gb238, 7, none⟩ = some (.string t235)) (ds := []) #[false, false, false, false, false, false, false, false, false, false, false, false, false, false, false, false, false, false] (by kernel_rfl) rfl rfl ⟨(blk_cell BK227.out 0).trans rfl, (blk_cell BK227.out 1).trans rfl, (blk_cell BK227.out 2).trans rfl, (blk_cell BK227.out 3).trans rfl, (blk_cell BK227.out 4).trans rfl, (blk_cell BK227.out 5).trans rfl, (blk_cell BK227.out 6).trans rfl, (blk_cell BK227.out 7).trans rfl, (blk_cell BK238.out 0).trans rfl, (blk_cell BK238.out 1).trans rfl, (blk_cell BK238.out 2).trans rfl, (blk_cell BK238.out 3).trans rfl, (blk_cell BK238.out 4).trans rfl, (blk_cell BK238.out 5).trans rfl, (blk_cell BK238.out 6).trans rfl, (blk_cell BK238.out 7).trans rfl⟩ (fun hHeld => ?_); refine with_tabW weighbridgelaw05_TcpParses.tab13 weighbridgelaw05_TcpParses.bits13 (fun HT_ HW_ => ?_)
                          generalize w48.drew = w49 at HO214 BK200 BK227 BK238 HB hHeld ⊢
                          refine pure_ (i := 0) (N := some 74) (v := ?_) (a' := ?_) #[true, false, false, false, false, false, false, false, false, false, false, false, false, false, false, false, false, false] rfl rfl (any_of HT_.out (by kernel_rfl)) (fun _ _ _ h => h) (Or.inl ⟨by rfl, ?_⟩) ?_ ?_
                          rotate_left
                          · intro w'
                            go_simp
                            with_reducible rfl
                          rotate_left
                          · simp only [Act.put, List.setIfInBounds_toArray, List.set_cons_zero, List.set_cons_succ, i64_w, i32_w]
                            rfl
                          refine pure_ (i := 1) (N := some 75) (v := ?_) (a' := ?_) #[true, true, false, false, false, false, false, false, false, false, false, false, false, false, false, false, false, false] rfl rfl (any_of HT_.out (by kernel_rfl)) (fun _ _ _ h => h) (Or.inl ⟨by rfl, ?_⟩) ?_ ?_
                          rotate_left
                          · intro w'
                            go_simp
                            with_reducible rfl
                          rotate_left
                          · simp only [Act.put, List.setIfInBounds_toArray, List.set_cons_zero, List.set_cons_succ, i64_w, i32_w]
                            rfl
                          refine take_ (i := 2) (N := some 76) (v := ?_) (a' := ?_) #[true, true, true, false, false, false, false, false, false, false, false, false, false, false, false, false, false, false] rfl rfl (take_ofW HT_.out HW_.out (by kernel_rfl)) (fun _ _ _ h => h) (Or.inl ⟨by rfl, ?_⟩) hHeld ?_ ?_
                          rotate_left
                          · rintro w' ⟨s0, s1, s2, s3, s4, s5, s6, s7, s8, s9, s10, s11, s12, s13, s14, s15⟩
                            go_simp
                            with_reducible rfl
                          rotate_left
                          · simp only [Act.put, List.setIfInBounds_toArray, List.set_cons_zero, List.set_cons_succ, i64_w, i32_w]
                            rfl
                          refine take_ (i := 4) (N := some 78) (v := ?_) (a' := ?_) #[true, true, true, false, true, false, false, false, false, false, false, false, false, false, false, false, false, false] rfl rfl (take_ofW HT_.out HW_.out (by kernel_rfl)) (fun _ _ _ h => h) (Or.inl ⟨by rfl, ?_⟩) hHeld ?_ ?_
                          rotate_left
                          · rintro w' ⟨s0, s1, s2, s3, s4, s5, s6, s7, s8, s9, s10, s11, s12, s13, s14, s15⟩
                            go_simp
                            with_reducible rfl
                          rotate_left
                          · simp only [Act.put, List.setIfInBounds_toArray, List.set_cons_zero, List.set_cons_succ, i64_w, i32_w]
                            rfl
                          refine one_ (i := 3) (N := some 77) #[true, true, true, true, true, false, false, false, false, false, false, false, false, false, false, false, false, false] rfl rfl (one_of HT_.out (by kernel_rfl)) (by decide) (fun K hK => ?_)
                          refine goes_ Try.func13 (by kernel_rfl) rfl #[.agg #[.int .i64 t217, .int .i64 t218, .int .u32 t219, .int .u32 t220, .int .i64 t221, .int .i64 t222, .int .i64 t223, .string t224]] (by rfl) rfl rfl (by (try simp only [List.map_toArray, List.map_cons, List.map_nil]); first | done | rfl | (simp only [List.length_drop, List.length_take]; rfl)) ?_
                          with_reducible refine (weighbridgelaw05_ref.calls t217 t218 t219 t220 t221 t222 t223 t224 t239 t240 t241 t242 t243 t244 t245 t246 _ A29.out).mono ?_
                          rintro e w50 ⟨rfl, hb⟩
                          refine ⟨_, rfl, ?_⟩
                          have n0_ := Aside0.mk (Kb.Q_below (by (with_reducible repeat (first | apply Kb.Q_alloc | apply Kb.Q_drewN | apply Kb.Q_drew)); exact HO214.out) hb)
                          have n1_ := Aside0.mk (blk_below (g := gb200) (o := .cells #[.int .i64 a1_0, .int .i64 a1_1, .int .u32 a1_2, .int .u32 a1_3, .int .i64 a1_4, .int .i64 a1_5, .int .i64 a1_6, .string a1_7] 24 (0, 0)) (by (with_reducible repeat (first | refine blk_drewN ?_ _ | refine blk_drew ?_ | refine blk_alloc ?_ _)); exact BK200.out) hb)
                          have n2_ := Aside0.mk (blk_below (g := gb227) (o := .cells #[.int .i64 t217, .int .i64 t218, .int .u32 t219, .int .u32 t220, .int .i64 t221, .int .i64 t222, .int .i64 t223, .string t224] 24 (0, 0)) (by (with_reducible repeat (first | refine blk_drewN ?_ _ | refine blk_drew ?_ | refine blk_alloc ?_ _)); exact BK227.out) hb)
                          have n3_ := Aside0.mk (blk_below (g := gb238) (o := .cells #[.int .i64 t228, .int .i64 t229, .int .u32 t230, .int .u32 t231, .int .i64 t232, .int .i64 t233, .int .i64 t234, .string t235] 31 (0, 0)) (by (with_reducible repeat (first | refine blk_drewN ?_ _ | refine blk_drew ?_ | refine blk_alloc ?_ _)); exact BK238.out) hb)
                          have n4_ := Aside0.mk (below_step (by repeat (first | (with_reducible first | exact HB.out | apply below_alloc | apply pw_below_drewN | apply below_drew1 | refine below_set ?_ GE200.out | refine below_set ?_ GE227.out | refine below_set ?_ GE238.out) | exact HB.out)) hb)
                          clear HO214
                          clear BK200
                          clear BK227
                          clear BK238
                          clear HB
                          have HO214 := n0_
                          have BK200 := n1_
                          have BK227 := n2_
                          have BK238 := n3_
                          have HB := n4_
                          clear n0_ n1_ n2_ n3_ n4_
                          (try clear hb)
                          (try clear hb2)
                          (try clear hk)
                          (try clear hi)
                          refine hK.out _ _ ⟨(blk_cell BK227.out 0).trans rfl, (blk_cell BK227.out 1).trans rfl, (blk_cell BK227.out 2).trans rfl, (blk_cell BK227.out 3).trans rfl, (blk_cell BK227.out 4).trans rfl, (blk_cell BK227.out 5).trans rfl, (blk_cell BK227.out 6).trans rfl, (blk_cell BK227.out 7).trans rfl, (blk_cell BK238.out 0).trans rfl, (blk_cell BK238.out 1).trans rfl, (blk_cell BK238.out 2).trans rfl, (blk_cell BK238.out 3).trans rfl, (blk_cell BK238.out 4).trans rfl, (blk_cell BK238.out 5).trans rfl, (blk_cell BK238.out 6).trans rfl, (blk_cell BK238.out 7).trans rfl⟩ (fun hHeld => ?_)
                          clear hK K
                          refine norm_ (a' := ?_) ?_ ?_
                          rotate_left
                          · show Act.put _ (some 77) _ = _
                            simp only [Act.put, List.setIfInBounds_toArray, List.set_cons_zero, List.set_cons_succ, i64_w, i32_w]
                            rfl
                          refine pure_ (i := 5) (N := some 79) (v := ?_) (a' := ?_) #[true, true, true, true, true, true, false, false, false, false, false, false, false, false, false, false, false, false] rfl rfl (any_of HT_.out (by kernel_rfl)) (fun _ _ _ h => h) (Or.inl ⟨by rfl, ?_⟩) ?_ ?_
                          rotate_left
                          · intro w'
                            go_simp
                            with_reducible rfl
                          rotate_left
                          · simp only [Act.put, List.setIfInBounds_toArray, List.set_cons_zero, List.set_cons_succ, i64_w, i32_w]
                            rfl
                          refine pure_ (i := 6) (N := some 80) (v := ?_) (a' := ?_) #[true, true, true, true, true, true, true, false, false, false, false, false, false, false, false, false, false, false] rfl rfl (any_of HT_.out (by kernel_rfl)) (fun _ _ _ h => h) (Or.inl ⟨by rfl, ?_⟩) ?_ ?_
                          rotate_left
                          · intro w'
                            go_simp
                            with_reducible rfl
                          rotate_left
                          · simp only [Act.put, List.setIfInBounds_toArray, List.set_cons_zero, List.set_cons_succ, i64_w, i32_w]
                            rfl
                          refine pure_ (i := 7) (N := some 81) (v := ?_) (a' := ?_) #[true, true, true, true, true, true, true, true, false, false, false, false, false, false, false, false, false, false] rfl rfl (any_of HT_.out (by kernel_rfl)) (fun _ _ _ h => h) (Or.inl ⟨by rfl, ?_⟩) ?_ ?_
                          rotate_left
                          · intro w'
                            go_simp
                            with_reducible rfl
                          rotate_left
                          · simp only [Act.put, List.setIfInBounds_toArray, List.set_cons_zero, List.set_cons_succ, i64_w, i32_w]
                            rfl
                          refine pure_ (i := 8) (N := some 82) (v := ?_) (a' := ?_) #[true, true, true, true, true, true, true, true, true, false, false, false, false, false, false, false, false, false] rfl rfl (any_of HT_.out (by kernel_rfl)) (fun _ _ _ h => h) (Or.inl ⟨by rfl, ?_⟩) ?_ ?_
                          rotate_left
                          · intro w'
                            go_simp
                            with_reducible rfl
                          rotate_left
                          · simp only [Act.put, List.setIfInBounds_toArray, List.set_cons_zero, List.set_cons_succ, i64_w, i32_w]
                            rfl
                          refine pure_ (i := 9) (N := some 83) (v := ?_) (a' := ?_) #[true, true, true, true, true, true, true, true, true, true, false, false, false, false, false, false, false, false] rfl rfl (any_of HT_.out (by kernel_rfl)) (fun _ _ _ h => h) (Or.inl ⟨by rfl, ?_⟩) ?_ ?_
                          rotate_left
                          · intro w'
                            go_simp
                            with_reducible rfl
                          rotate_left
                          · simp only [Act.put, List.setIfInBounds_toArray, List.set_cons_zero, List.set_cons_succ, i64_w, i32_w]
                            rfl
                          refine pure_ (i := 10) (N := some 84) (v := ?_) (a' := ?_) #[true, true, true, true, true, true, true, true, true, true, true, false, false, false, false, false, false, false] rfl rfl (any_of HT_.out (by kernel_rfl)) (fun _ _ _ h => h) (Or.inl ⟨by rfl, ?_⟩) ?_ ?_
                          rotate_left
                          · intro w'
                            go_simp
                            with_reducible rfl
                          rotate_left
                          · simp only [Act.put, List.setIfInBounds_toArray, List.set_cons_zero, List.set_cons_succ, i64_w, i32_w]
                            rfl
                          refine pure_ (i := 11) (N := some 85) (v := ?_) (a' := ?_) #[true, true, true, true, true, true, true, true, true, true, true, true, false, false, false, false, false, false] rfl rfl (any_of HT_.out (by kernel_rfl)) (fun _ _ _ h => h) (Or.inl ⟨by rfl, ?_⟩) ?_ ?_
                          rotate_left
                          · intro w'
                            go_simp
                            with_reducible rfl
                          rotate_left
                          · simp only [Act.put, List.setIfInBounds_toArray, List.set_cons_zero, List.set_cons_succ, i64_w, i32_w]
                            rfl
                          refine pure_ (i := 12) (N := some 86) (v := ?_) (a' := ?_) #[true, true, true, true, true, true, true, true, true, true, true, true, true, false, false, false, false, false] rfl rfl (any_of HT_.out (by kernel_rfl)) (fun _ _ _ h => h) (Or.inl ⟨by rfl, ?_⟩) ?_ ?_
                          rotate_left
                          · intro w'
                            go_simp
                            with_reducible rfl
                          rotate_left
                          · simp only [Act.put, List.setIfInBounds_toArray, List.set_cons_zero, List.set_cons_succ, i64_w, i32_w]
                            rfl
                          refine pure_ (i := 13) (N := some 87) (v := ?_) (a' := ?_) #[true, true, true, true, true, true, true, true, true, true, true, true, true, true, false, false, false, false] rfl rfl (any_of HT_.out (by kernel_rfl)) (fun _ _ _ h => h) (Or.inl ⟨by rfl, ?_⟩) ?_ ?_
                          rotate_left
                          · intro w'
                            go_simp
                            with_reducible rfl
                          rotate_left
                          · simp only [Act.put, List.setIfInBounds_toArray, List.set_cons_zero, List.set_cons_succ, i64_w, i32_w]
                            rfl
                          refine pure_ (i := 14) (N := some 88) (v := ?_) (a' := ?_) #[true, true, true, true, true, true, true, true, true, true, true, true, true, true, true, false, false, false] rfl rfl (any_of HT_.out (by kernel_rfl)) (fun _ _ _ h => h) (Or.inl ⟨by rfl, ?_⟩) ?_ ?_
                          rotate_left
                          · intro w'
                            go_simp
                            with_reducible rfl
                          rotate_left
                          · simp only [Act.put, List.setIfInBounds_toArray, List.set_cons_zero, List.set_cons_succ, i64_w, i32_w]
                            rfl
                          refine pure_ (i := 15) (N := some 89) (v := ?_) (a' := ?_) #[true, true, true, true, true, true, true, true, true, true, true, true, true, true, true, true, false, false] rfl rfl (any_of HT_.out (by kernel_rfl)) (fun _ _ _ h => h) (Or.inl ⟨by rfl, ?_⟩) ?_ ?_
                          rotate_left
                          · intro w'
                            go_simp
                            with_reducible rfl
                          rotate_left
                          · simp only [Act.put, List.setIfInBounds_toArray, List.set_cons_zero, List.set_cons_succ, i64_w, i32_w]
                            rfl
                          refine pure_ (i := 16) (N := some 90) (v := ?_) (a' := ?_) #[true, true, true, true, true, true, true, true, true, true, true, true, true, true, true, true, true, false] rfl rfl (any_of HT_.out (by kernel_rfl)) (fun _ _ _ h => h) (Or.inl ⟨by rfl, ?_⟩) ?_ ?_
                          rotate_left
                          · intro w'
                            go_simp
                            with_reducible rfl
                          rotate_left
                          · simp only [Act.put, List.setIfInBounds_toArray, List.set_cons_zero, List.set_cons_succ, i64_w, i32_w]
                            rfl
                          refine pure_ (i := 17) (N := some 12) (v := ?_) (a' := ?_) #[true, true, true, true, true, true, true, true, true, true, true, true, true, true, true, true, true, true] rfl rfl (any_of HT_.out (by kernel_rfl)) (fun _ _ _ h => h) (Or.inl ⟨by rfl, ?_⟩) ?_ ?_
                          rotate_left
                          · intro w'
                            go_simp
                            with_reducible rfl
                          rotate_left
                          · simp only [Act.put, List.setIfInBounds_toArray, List.set_cons_zero, List.set_cons_succ, i64_w, i32_w]
                            rfl
                          refine done_ (done_of HT_.out (by kernel_rfl)) ?_
                          try go_wp2
                          go_ret
                          exact ⟨by first | rfl | (simp [errW_none, errW_some] <;> rfl) | (simp only [← hji22]; first | rfl | (simp [errW_none, errW_some] <;> rfl)) | (simp [*, errW_none, errW_some] <;> rfl), by repeat (first | (with_reducible first | exact HB.out | apply below_alloc | apply pw_below_drewN | apply below_drew1 | refine below_set ?_ GE200.out | refine below_set ?_ GE227.out | refine below_set ?_ GE238.out) | exact HB.out)⟩
                        · rw [if_neg c31] at H
                          have c31b0 : (t225.toList == t236.toList) = false := beq_eq_false_iff_ne.mpr c31
                          have c31b1 : (t225.toList != t236.toList) = true := bne_iff_ne.mpr c31
                          exact absurd ((Option.some.inj H).trans hr_) (by decide)
                      · rw [if_neg c30] at H
                        have c30b0 : (t239 == t228 && (t240 == t229 && (t241 == t230 && (t242 == t231 && (t243 == t232 && (t244 == t233 && (t245 == t234 && (t246.toList == t235.toList)))))))) = false := by simpa using c30
                        (try (have c30b1 : decide (t239 = t228 && (t240 == t229 && (t241 == t230 && (t242 == t231 && (t243 == t232 && (t244 == t233 && (t245 == t234 && (t246.toList == t235.toList)))))))) = false := by simpa using c30))
                        (try (have c30b2 : (t239 == t228 && (t240 == t229 && (t241 == t230 && (t242 == t231 && (t243 == t232 && (t244 == t233 && (t245 == t234 && (t246.toList == t235.toList)))))))) = false := by simpa using c30))
                        (try (have c30b3 : ¬ (t239 = t228 && (t240 == t229 && (t241 == t230 && (t242 == t231 && (t243 == t232 && (t244 == t233 && (t245 == t234 && (t246.toList == t235.toList)))))))) := by simpa using c30))
                        clear c30
                        exact absurd ((Option.some.inj H).trans hr_) (by decide)
                  · rw [if_neg c24] at H
                    exact absurd H (by simp)
                · rw [if_neg c23] at H
                  exact absurd H (by simp)
            · rw [if_neg c20] at H
              have c20b0 : decide (a4 < 0) = false := decide_eq_false c20
              clear c20
              by_cases c51 : (y212.length : Int) = 0
              · rw [if_pos c51] at H
                exact absurd H (by simp)
              · rw [if_neg c51] at H
                have c51b0 : ((y212.length : Int) == 0) = false := beq_eq_false_iff_ne.mpr c51
                have c51b1 : ((y212.length : Int) != 0) = true := bne_iff_ne.mpr c51
                have c51b2 : ¬ (y212 = []) := fun h_ => c51 (by rw [h_]; rfl)
                obtain ⟨ji52, hji52⟩ : ∃ j_ : Int, (Int.tmod a4 (y212.length : Int)) = j_ := ⟨_, rfl⟩
                replace H : (if 0 ≤ (ji52) then (if (ji52) < (y212.length : Int) then ((some (y212.set ((ji52) : Int).toNat (Go.bits .xor .u8 (rd y212 (ji52)) a5) : List Int)).bind fun y248 => ((tcp_Parse.f (strOfNums y248)).bind fun bt249 => ((weighbridgeref05_Parse.f (strOfNums y248)).bind fun bt260 => (if true = true then ((weighbridgelaw05_ref.f bt249.1 bt249.2.1 bt249.2.2.1 bt249.2.2.2.1 bt249.2.2.2.2.1 bt249.2.2.2.2.2.1 bt249.2.2.2.2.2.2.1 bt249.2.2.2.2.2.2.2.1).bind fun bt271 => (if (bt271.1 == bt260.1 && (bt271.2.1 == bt260.2.1 && (bt271.2.2.1 == bt260.2.2.1 && (bt271.2.2.2.1 == bt260.2.2.2.1 && (bt271.2.2.2.2.1 == bt260.2.2.2.2.1 && (bt271.2.2.2.2.2.1 == bt260.2.2.2.2.2.1 && (bt271.2.2.2.2.2.2.1 == bt260.2.2.2.2.2.2.1 && (bt271.2.2.2.2.2.2.2.toList == bt260.2.2.2.2.2.2.2.1.toList)))))))) = true then (if bt249.2.2.2.2.2.2.2.2.1.toList = bt260.2.2.2.2.2.2.2.2.1.toList then (some (bt249.2.2.2.2.2.2.2.2.2 == bt260.2.2.2.2.2.2.2.2.2)) else (some false)) else (some false))) else (some false))))) else (none)) else (none)) = some r := by first | (rw [hji52] at H; exact H) | (simp only [hji52] at H ⊢; exact H)
                by_cases c53 : 0 ≤ (ji52)
                · rw [if_pos c53] at H
                  have c53b0 : decide (0 ≤ (ji52)) = true := decide_eq_true c53
                  clear c53
                  by_cases c54 : (ji52) < (y212.length : Int)
                  · rw [if_pos c54] at H
                    have c54b0 : decide ((ji52) < (y212.length : Int)) = true := decide_eq_true c54
                    clear c54
                    obtain ⟨y248, hy248⟩ : ∃ y_ : List Int, y_ = (y212.set ((ji52) : Int).toNat (Go.bits .xor .u8 (rd y212 (ji52)) a5)) := ⟨_, rfl⟩
                    replace H : ((tcp_Parse.f (strOfNums y248)).bind fun bt249 => ((weighbridgeref05_Parse.f (strOfNums y248)).bind fun bt260 => (if true = true then ((weighbridgelaw05_ref.f bt249.1 bt249.2.1 bt249.2.2.1 bt249.2.2.2.1 bt249.2.2.2.2.1 bt249.2.2.2.2.2.1 bt249.2.2.2.2.2.2.1 bt249.2.2.2.2.2.2.2.1).bind fun bt271 => (if (bt271.1 == bt260.1 && (bt271.2.1 == bt260.2.1 && (bt271.2.2.1 == bt260.2.2.1 && (bt271.2.2.2.1 == bt260.2.2.2.1 && (bt271.2.2.2.2.1 == bt260.2.2.2.2.1 && (bt271.2.2.2.2.2.1 == bt260.2.2.2.2.2.1 && (bt271.2.2.2.2.2.2.1 == bt260.2.2.2.2.2.2.1 && (bt271.2.2.2.2.2.2.2.toList == bt260.2.2.2.2.2.2.2.1.toList)))))))) = true then (if bt249.2.2.2.2.2.2.2.2.1.toList = bt260.2.2.2.2.2.2.2.2.1.toList then (some (bt249.2.2.2.2.2.2.2.2.2 == bt260.2.2.2.2.2.2.2.2.2)) else (some false)) else (some false))) else (some false)))) = some r := by first | (rw [hy248]; with_reducible exact H) | (have H2_ := (Option.bind_some _ _).symm.trans H; rw [hy248]; with_reducible exact H2_) | (have H2_ := (Option.bind_some _ _).symm.trans H; with_reducible exact H2_) | with_reducible exact H | (rw [hy248]; exact H) | exact H
                    have Ny248 := Aside0.mk hy248
                    clear hy248
                    replace H := Option.bind_eq_some_iff.mp H
                    obtain ⟨⟨t249, t250, t251, t252, t253, t254, t255, t256, t257, t258⟩, A560, H⟩ := H
                    replace H : ((weighbridgeref05_Parse.f (strOfNums y248)).bind fun bt260 => (if true = true then ((weighbridgelaw05_ref.f t249 t250 t251 t252 t253 t254 t255 t256).bind fun bt271 => (if (bt271.1 == bt260.1 && (bt271.2.1 == bt260.2.1 && (bt271.2.2.1 == bt260.2.2.1 && (bt271.2.2.2.1 == bt260.2.2.2.1 && (bt271.2.2.2.2.1 == bt260.2.2.2.2.1 && (bt271.2.2.2.2.2.1 == bt260.2.2.2.2.2.1 && (bt271.2.2.2.2.2.2.1 == bt260.2.2.2.2.2.2.1 && (bt271.2.2.2.2.2.2.2.toList == bt260.2.2.2.2.2.2.2.1.toList)))))))) = true then (if t257.toList = bt260.2.2.2.2.2.2.2.2.1.toList then (some (t258 == bt260.2.2.2.2.2.2.2.2.2)) else (some false)) else (some false))) else (some false))) = some r := H
                    have A56 := Aside0.mk A560
                    clear A560
                    replace H := Option.bind_eq_some_iff.mp H
                    obtain ⟨⟨t260, t261, t262, t263, t264, t265, t266, t267, t268, t269⟩, A570, H⟩ := H
                    replace H : (if true = true then ((weighbridgelaw05_ref.f t249 t250 t251 t252 t253 t254 t255 t256).bind fun bt271 => (if (bt271.1 == t260 && (bt271.2.1 == t261 && (bt271.2.2.1 == t262 && (bt271.2.2.2.1 == t263 && (bt271.2.2.2.2.1 == t264 && (bt271.2.2.2.2.2.1 == t265 && (bt271.2.2.2.2.2.2.1 == t266 && (bt271.2.2.2.2.2.2.2.toList == t267.toList)))))))) = true then (if t257.toList = t268.toList then (some (t258 == t269)) else (some false)) else (some false))) else (some false)) = some r := H
                    have A57 := Aside0.mk A570
                    clear A570
                    have c58 : true = true := rfl
                    · clear c58
                      have H1 : ((weighbridgelaw05_ref.f t249 t250 t251 t252 t253 t254 t255 t256).bind fun bt271 => (if (bt271.1 == t260 && (bt271.2.1 == t261 && (bt271.2.2.1 == t262 && (bt271.2.2.2.1 == t263 && (bt271.2.2.2.2.1 == t264 && (bt271.2.2.2.2.2.1 == t265 && (bt271.2.2.2.2.2.2.1 == t266 && (bt271.2.2.2.2.2.2.2.toList == t267.toList)))))))) = true then (if t257.toList = t268.toList then (some (t258 == t269)) else (some false)) else (some false))) = some r := by first | (rw [if_pos rfl] at H; exact H) | (rw [if_pos trivial] at H; exact H)
                      clear H
                      have H := H1
                      clear H1
                      replace H := Option.bind_eq_some_iff.mp H
                      obtain ⟨⟨t271, t272, t273, t274, t275, t276, t277, t278⟩, A590, H⟩ := H
                      replace H : (if (t271 == t260 && (t272 == t261 && (t273 == t262 && (t274 == t263 && (t275 == t264 && (t276 == t265 && (t277 == t266 && (t278.toList == t267.toList)))))))) = true then (if t257.toList = t268.toList then (some (t258 == t269)) else (some false)) else (some false)) = some r := H
                      have A59 := Aside0.mk A590
                      clear A590
                      by_cases c60 : (t271 == t260 && (t272 == t261 && (t273 == t262 && (t274 == t263 && (t275 == t264 && (t276 == t265 && (t277 == t266 && (t278.toList == t267.toList)))))))) = true
                      · rw [if_pos c60] at H
                        have c60b0 : (t271 == t260 && (t272 == t261 && (t273 == t262 && (t274 == t263 && (t275 == t264 && (t276 == t265 && (t277 == t266 && (t278.toList == t267.toList)))))))) = true := c60
                        (try (have c60b1 : decide (t271 = t260 && (t272 == t261 && (t273 == t262 && (t274 == t263 && (t275 == t264 && (t276 == t265 && (t277 == t266 && (t278.toList == t267.toList)))))))) = true := by simpa using c60))
                        (try (have c60b2 : (t271 == t260 && (t272 == t261 && (t273 == t262 && (t274 == t263 && (t275 == t264 && (t276 == t265 && (t277 == t266 && (t278.toList == t267.toList)))))))) = true := by simpa using c60))
                        clear c60
                        by_cases c61 : t257.toList = t268.toList
                        · rw [if_pos c61] at H
                          have c61b0 : (t257.toList == t268.toList) = true := beq_iff_eq.mpr c61
                          have c61b1 : (t257.toList != t268.toList) = false := bne_eq_false_iff_eq.mpr c61
                          clear c61
                          obtain rfl := Option.some.inj H
                          try go_wp2_with (first | ((with_reducible refine gate_dst (N := 39) rfl ?_); refine Kb.Q_conv (Kd.int .u8) 5 rfl (N := 39) rfl 9 38 _ rfl t210 rfl Try.underlying9 Try.underlying38 Try.underlying5 (ok := fun _ => True) trivial (of_decide_eq_true (by first | (with_reducible assumption) | assumption)) ?_; intro v213 w62 ho63 hb hg_ hnew_; clear hg_ hnew_; (first | rw [← Ny212.out] at ho63 | (simp only [Int.reduceToNat] at ho63; rw [← Ny212.out] at ho63)); have n0_ := Aside0.mk (Kb.Q_lower ho63 (below_size (by repeat (first | (with_reducible first | exact HB.out | apply below_alloc | apply pw_below_drewN | apply below_drew1 | refine below_set ?_ GE200.out) | exact HB.out)))); have n1_ := Aside0.mk (blk_below (g := gb200) (o := .cells #[.int .i64 a1_0, .int .i64 a1_1, .int .u32 a1_2, .int .u32 a1_3, .int .i64 a1_4, .int .i64 a1_5, .int .i64 a1_6, .string a1_7] 24 (0, 0)) (by (with_reducible repeat (first | refine blk_drewN ?_ _ | refine blk_drew ?_ | refine blk_alloc ?_ _)); exact BK200.out) hb); have n2_ := Aside0.mk (below_step (by repeat (first | (with_reducible first | exact HB.out | apply below_alloc | apply pw_below_drewN | apply below_drew1 | refine below_set ?_ GE200.out) | exact HB.out)) hb); clear BK200; clear HB; have HO214 := n0_; have BK200 := n1_; have HB := n2_; clear n0_ n1_ n2_; clear hb ho63))
                          have n0_ := Aside0.mk (Kb.Q_drew HO214.out)
                          have n1_ := Aside0.mk (blk_drew BK200.out)
                          have n2_ := Aside0.mk (below_drew1 HB.out)
                          clear HO214
                          clear BK200
                          clear HB
                          have HO214 := n0_
                          have BK200 := n1_
                          have HB := n2_
                          clear n0_ n1_ n2_
                          obtain ⟨Ao65, co65, eo65, _⟩ := Kb.Q_slice HO214.out
                          (first | subst eo65 | (injection eo65 with f1_ f2_ f3_; have f4_ := f1_.symm; have f5_ := f3_.symm; clear f1_ f2_ f3_; subst f4_; subst f5_))
                          have p247 : 0 ≤ ((ji52) : Int) := of_decide_eq_true (by first | (with_reducible assumption) | assumption)
                          have q247 : (ji52) < (y212.length : Int) := of_decide_eq_true (by first | (with_reducible assumption) | assumption)
                          obtain ⟨ad247, e247, hx247_0⟩ := Kd.at_int (Kb.Q_reads' HO214.out).2.2 (ji52) p247 q247
                          cases e247
                          replace p247 := eq_true p247
                          replace q247 := eq_true q247
                          have p55 : 0 ≤ ((ji52) : Int) := of_decide_eq_true (by first | (with_reducible assumption) | assumption)
                          have q55 : ((ji52) : Int) < ((y212.length : Int) : Int) := of_decide_eq_true (by first | (with_reducible assumption) | assumption)
                          obtain ⟨go55, co55, eo55, gb55, gl55, cl55, HG55⟩ := Kb.Q_form HO214.out (by omega)
                          (first | cases eo55 | (injection eo55 with ea_ en_ ec_; (first | subst ea_ | (injection ea_ with ea_; subst ea_)); subst ec_; clear en_))
                          have GB55 := Aside0.mk gb55
                          have GG55 := Aside0.mk HG55
                          clear gb55 gl55 HG55
                          (first | simp only [add_at, Nat.zero_add] at hx247_0 | skip)
                          obtain ⟨hx55_0, hf55_0⟩ := Kb.Q_cell 0 HO214.out ((ji52) : Int) p55 q55
                          replace p55 := eq_true p55
                          replace q55 := eq_true q55
                          have HP66 := (Kb.Q_putg HO214.out ((ji52) : Int) (of_decide_eq_true (by first | (with_reducible assumption) | assumption)) (by have h_ : ((ji52) : Int) < ((y212.length : Int) : Int) := of_decide_eq_true (by first | (with_reducible assumption) | assumption); first | exact h_ | (have e_ := (Kb.Q_reads' HO214.out).1; omega) | simpa using h_) (Go.bits .xor .u8 (rd y212 (ji52)) a5)).1
                          rw [← Ny248.out] at HP66
                          have HQ66 := Aside0.mk HP66
                          clear HP66
                          refine start_ (n := 16) (S := fun w' => w'.cell? ⟨go55, ((ji52)).toNat, none⟩ = some (.int .u8 (rd y212 (ji52)))) (ds := [15]) #[false, false, false, false, false, false, false, false, false, false, false, false, false, false, false, false] (by kernel_rfl) rfl rfl (hx247_0) (fun hHeld => ?_); refine with_tabW weighbridgelaw05_TcpParses.tab9 weighbridgelaw05_TcpParses.bits9 (fun HT_ HW_ => ?_)
                          generalize w62.drew = w64 at HO214 BK200 HB GG55 HQ66 hf55_0 hx247_0 hx55_0 hHeld ⊢
                          refine pure_ (i := 0) (N := some 45) (v := ?_) (a' := ?_) #[true, false, false, false, false, false, false, false, false, false, false, false, false, false, false, false] rfl rfl (any_of HT_.out (by kernel_rfl)) (fun _ _ _ h => h) (Or.inl ⟨by rfl, ?_⟩) ?_ ?_
                          rotate_left
                          · intro w'
                            go_simp
                            with_reducible rfl
                          rotate_left
                          · simp only [Act.put, List.setIfInBounds_toArray, List.set_cons_zero, List.set_cons_succ, i64_w, i32_w]
                            rfl
                          refine pure_ (i := 1) (N := some 46) (v := ?_) (a' := ?_) #[true, true, false, false, false, false, false, false, false, false, false, false, false, false, false, false] rfl rfl (any_of HT_.out (by kernel_rfl)) (fun _ _ _ h => h) (Or.inl ⟨by rfl, ?_⟩) ?_ ?_
                          rotate_left
                          · intro w'
                            go_simp
                            with_reducible rfl
                          rotate_left
                          · simp only [Act.put, List.setIfInBounds_toArray, List.set_cons_zero, List.set_cons_succ, i64_w, i32_w]
                            rfl
                          refine pure_ (i := 2) (N := some 47) (v := ?_) (a' := ?_) #[true, true, true, false, false, false, false, false, false, false, false, false, false, false, false, false] rfl rfl (any_of HT_.out (by kernel_rfl)) (fun _ _ _ h => h) (Or.inl ⟨by rfl, ?_⟩) ?_ ?_
                          rotate_left
                          · intro w'
                            go_simp
                            with_reducible rfl
                          rotate_left
                          · simp only [Act.put, List.setIfInBounds_toArray, List.set_cons_zero, List.set_cons_succ, i64_w, i32_w]
                            rfl
                          refine pure_ (i := 3) (N := some 48) (v := ?_) (a' := ?_) #[true, true, true, true, false, false, false, false, false, false, false, false, false, false, false, false] rfl rfl (any_of HT_.out (by kernel_rfl)) (fun _ _ _ h => h) (Or.inl ⟨by rfl, ?_⟩) ?_ ?_
                          rotate_left
                          · intro w'
                            go_simp
                            with_reducible rfl
                          rotate_left
                          · simp only [Act.put, List.setIfInBounds_toArray, List.set_cons_zero, List.set_cons_succ, i64_w, i32_w]
                            rfl
                          refine pure_ (i := 4) (N := some 49) (v := ?_) (a' := ?_) #[true, true, true, true, true, false, false, false, false, false, false, false, false, false, false, false] rfl rfl (any_of HT_.out (by kernel_rfl)) (fun _ _ _ h => h) (Or.inl ⟨by rfl, ?_⟩) ?_ ?_
                          rotate_left
                          · intro w'
                            go_simp
                            with_reducible rfl
                          rotate_left
                          · simp only [Act.put, List.setIfInBounds_toArray, List.set_cons_zero, List.set_cons_succ, i64_w, i32_w]
                            rfl
                          refine pure_ (i := 5) (N := some 50) (v := ?_) (a' := ?_) #[true, true, true, true, true, true, false, false, false, false, false, false, false, false, false, false] rfl rfl (any_of HT_.out (by kernel_rfl)) (fun _ _ _ h => h) (Or.inl ⟨by rfl, ?_⟩) ?_ ?_
                          rotate_left
                          · intro w'
                            go_simp
                            with_reducible rfl
                          rotate_left
                          · simp only [Act.put, List.setIfInBounds_toArray, List.set_cons_zero, List.set_cons_succ, i64_w, i32_w]
                            rfl
                          refine pure_ (i := 6) (N := some 51) (v := ?_) (a' := ?_) #[true, true, true, true, true, true, true, false, false, false, false, false, false, false, false, false] rfl rfl (any_of HT_.out (by kernel_rfl)) (fun _ _ _ h => h) (Or.inl ⟨by rfl, ?_⟩) ?_ ?_
                          rotate_left
                          · intro w'
                            go_simp
                            with_reducible rfl
                          rotate_left
                          · simp only [Act.put, List.setIfInBounds_toArray, List.set_cons_zero, List.set_cons_succ, i64_w, i32_w]
                            rfl
                          refine pure_ (i := 7) (N := some 52) (v := ?_) (a' := ?_) #[true, true, true, true, true, true, true, true, false, false, false, false, false, false, false, false] rfl rfl (any_of HT_.out (by kernel_rfl)) (fun _ _ _ h => h) (Or.inl ⟨by rfl, ?_⟩) ?_ ?_
                          rotate_left
                          · intro w'
                            go_simp
                            with_reducible rfl
                          rotate_left
                          · simp only [Act.put, List.setIfInBounds_toArray, List.set_cons_zero, List.set_cons_succ, i64_w, i32_w]
                            rfl
                          refine pure_ (i := 8) (N := some 53) (v := ?_) (a' := ?_) #[true, true, true, true, true, true, true, true, true, false, false, false, false, false, false, false] rfl rfl (any_of HT_.out (by kernel_rfl)) (fun _ _ _ h => h) (Or.inl ⟨by rfl, ?_⟩) ?_ ?_
                          rotate_left
                          · intro w'
                            go_simp
                            with_reducible rfl
                          rotate_left
                          · simp only [Act.put, List.setIfInBounds_toArray, List.set_cons_zero, List.set_cons_succ, i64_w, i32_w]
                            rfl
                          refine pure_ (i := 9) (N := some 54) (v := ?_) (a' := ?_) #[true, true, true, true, true, true, true, true, true, true, false, false, false, false, false, false] rfl rfl (any_of HT_.out (by kernel_rfl)) (fun _ _ _ h => h) (Or.inl ⟨by rfl, ?_⟩) ?_ ?_
                          rotate_left
                          · intro w'
                            go_simp
                            with_reducible rfl
                          rotate_left
                          · simp only [Act.put, List.setIfInBounds_toArray, List.set_cons_zero, List.set_cons_succ, i64_w, i32_w]
                            rfl
                          refine pure_ (i := 10) (N := some 55) (v := ?_) (a' := ?_) #[true, true, true, true, true, true, true, true, true, true, true, false, false, false, false, false] rfl rfl (any_of HT_.out (by kernel_rfl)) (fun _ _ _ h => h) (Or.inl ⟨by rfl, ?_⟩) ?_ ?_
                          rotate_left
                          · intro w'
                            go_simp
                            with_reducible rfl
                          rotate_left
                          · simp only [Act.put, List.setIfInBounds_toArray, List.set_cons_zero, List.set_cons_succ, i64_w, i32_w]
                            rfl
                          refine pure_ (i := 12) (N := some 57) (v := ?_) (a' := ?_) #[true, true, true, true, true, true, true, true, true, true, true, false, true, false, false, false] rfl rfl (any_of HT_.out (by kernel_rfl)) (fun _ _ _ h => h) (Or.inl ⟨by rfl, ?_⟩) ?_ ?_
                          rotate_left
                          · intro w'
                            go_simp
                            with_reducible rfl
                          rotate_left
                          · simp only [Act.put, List.setIfInBounds_toArray, List.set_cons_zero, List.set_cons_succ, i64_w, i32_w]
                            rfl
                          refine take_ (i := 11) (N := some 56) (v := ?_) (a' := ?_) #[true, true, true, true, true, true, true, true, true, true, true, true, true, false, false, false] rfl rfl (take_ofW HT_.out HW_.out (by kernel_rfl)) (fun _ _ _ h => h) (Or.inl ⟨by rfl, ?_⟩) hHeld ?_ ?_
                          rotate_left
                          · intro w' s0
                            go_simp
                            with_reducible rfl
                          rotate_left
                          · simp only [Act.put, List.setIfInBounds_toArray, List.set_cons_zero, List.set_cons_succ, i64_w, i32_w]
                            rfl
                          refine pure_ (i := 13) (N := some 58) (v := ?_) (a' := ?_) #[true, true, true, true, true, true, true, true, true, true, true, true, true, true, false, false] rfl rfl (any_of HT_.out (by kernel_rfl)) (fun _ _ _ h => h) (Or.inl ⟨by rfl, ?_⟩) ?_ ?_
                          rotate_left
                          · intro w'
                            go_simp
                            with_reducible rfl
                          rotate_left
                          · simp only [Act.put, List.setIfInBounds_toArray, List.set_cons_zero, List.set_cons_succ, i64_w, i32_w]
                            rfl
                          refine pure_ (i := 14) (N := some 59) (v := ?_) (a' := ?_) #[true, true, true, true, true, true, true, true, true, true, true, true, true, true, true, false] rfl rfl (any_of HT_.out (by kernel_rfl)) (fun _ _ _ h => h) (Or.inl ⟨by rfl, ?_⟩) ?_ ?_
                          rotate_left
                          · intro w'
                            go_simp
                            with_reducible rfl
                          rotate_left
                          · simp only [Act.put, List.setIfInBounds_toArray, List.set_cons_zero, List.set_cons_succ, i64_w, i32_w]
                            rfl
                          refine last_ (i := 15) (N := none) #[true, true, true, true, true, true, true, true, true, true, true, true, true, true, true, true] rfl rfl (one_of HT_.out (by kernel_rfl)) (by decide) (fun K hK => ?_)
                          refine skip_ (w1 := ?_) (by rfl) rfl ?_ ?_
                          rotate_left
                          · go_simp
                            rfl
                          refine hK.out _ _ ?_
                          clear hK K
                          refine done_ (done_of HT_.out (by kernel_rfl)) ?_
                          have n0_ : Aside0 (Kb.Q (Kd.int .u8) 5 (w64.setCell ⟨go55, ((ji52) : Int).toNat, none⟩ (.int .u8 (Go.bits .xor .u8 (rd y212 (ji52)) a5))) w.heap.size (fun _ => True) (.slice (some ⟨go55, 0, none⟩) y212.length co65) y248) := ⟨by (with_reducible repeat (first | apply Kb.Q_alloc | apply Kb.Q_drewN | apply Kb.Q_drew)); exact HQ66.out⟩
                          have n1_ : Aside0 ((w64.setCell ⟨go55, ((ji52) : Int).toNat, none⟩ (.int .u8 (Go.bits .xor .u8 (rd y212 (ji52)) a5))).heap[gb200]? = some (.cells #[.int .i64 a1_0, .int .i64 a1_1, .int .u32 a1_2, .int .u32 a1_3, .int .i64 a1_4, .int .i64 a1_5, .int .i64 a1_6, .string a1_7] 24 (0, 0))) := ⟨by (with_reducible repeat (first | refine blk_drewN ?_ _ | refine blk_drew ?_ | refine blk_alloc ?_ _)); refine blk_far ?_ (by have h_ := Kb.Q_ne HO214.out BK200.out (by decide); intro e_; exact h_ (by rw [e_]; rfl)) _; (with_reducible repeat (first | refine blk_drewN ?_ _ | refine blk_drew ?_ | refine blk_alloc ?_ _)); exact BK200.out⟩
                          have n2_ : Aside0 (Below w.heap.size w (w64.setCell ⟨go55, ((ji52) : Int).toNat, none⟩ (.int .u8 (Go.bits .xor .u8 (rd y212 (ji52)) a5)))) := ⟨by repeat (first | (with_reducible first | exact HB.out | apply below_alloc | apply pw_below_drewN | apply below_drew1 | refine below_set ?_ GB55.out | refine below_set ?_ GE200.out) | exact HB.out)⟩
                          (try clear HO214)
                          (try clear BK200)
                          (try clear HB)
                          generalize (w64.setCell ⟨go55, ((ji52) : Int).toNat, none⟩ (.int .u8 (Go.bits .xor .u8 (rd y212 (ji52)) a5))) = w67 at n0_ n1_ n2_ ⊢
                          have HO214 := n0_
                          have BK200 := n1_
                          have HB := n2_
                          clear n0_ n1_ n2_
                          have hcv68 := Kb.Q_string (P := Try.prog) Try.underlying38 Try.underlying5 Try.underlying9 (by exact HO214.out)
                          try go_wp2_with (first | ((with_reducible refine gate_callee (f := 20) rfl ?_); refine goesL_ (some 64) rfl rfl Try.func20 (by kernel_rfl) rfl #[.string (strOfNums y248)] rfl (by (try simp only [List.map_toArray, List.map_cons, List.map_nil]); first | done | rfl | (simp only [List.length_drop, List.length_take]; rfl)) ?_; (with_reducible refine (tcp_Parse.calls (strOfNums y248) t249 t250 t251 t252 t253 t254 t255 t256 t257 t258 _ A56.out).mono ?_); rintro e w69 ⟨rfl, hb⟩; (try clear A56); refine ⟨_, rfl, ?_⟩; have n0_ := Aside0.mk (Kb.Q_below (by (with_reducible repeat (first | apply Kb.Q_alloc | apply Kb.Q_drewN | apply Kb.Q_drew)); exact HO214.out) hb); have n1_ := Aside0.mk (blk_below (g := gb200) (o := .cells #[.int .i64 a1_0, .int .i64 a1_1, .int .u32 a1_2, .int .u32 a1_3, .int .i64 a1_4, .int .i64 a1_5, .int .i64 a1_6, .string a1_7] 24 (0, 0)) (by (with_reducible repeat (first | refine blk_drewN ?_ _ | refine blk_drew ?_ | refine blk_alloc ?_ _)); exact BK200.out) hb); have n2_ := Aside0.mk (below_step (by repeat (first | (with_reducible first | exact HB.out | apply below_alloc | apply pw_below_drewN | apply below_drew1 | refine below_set ?_ GE200.out) | exact HB.out)) hb); clear HO214; clear BK200; clear HB; have HO214 := n0_; have BK200 := n1_; have HB := n2_; clear n0_ n1_ n2_; (try clear hb); (try clear hb2); (try clear hk); (try clear hi)) | ((with_reducible refine gate_dst (N := 17) rfl ?_); refine box_event ?hg (N := 17) ?hd (cs := #[.int .i64 0, .int .i64 0, .int .u32 0, .int .u32 0, .int .i64 0, .int .i64 0, .int .i64 0, .string (⟨#[]⟩ : ByteArray)]) (t := 24) ?hr ?_; (case hd => rfl); (case hg => rfl); (case hr => first | (go_simp; done) | (go_simp; rfl)); intro gb259 hg w70 hbox hb; have n0_ := Aside0.mk (Kb.Q_below (by (with_reducible repeat (first | apply Kb.Q_alloc | apply Kb.Q_drewN | apply Kb.Q_drew)); exact HO214.out) hb); have n1_ := Aside0.mk (blk_below (g := gb200) (o := .cells #[.int .i64 a1_0, .int .i64 a1_1, .int .u32 a1_2, .int .u32 a1_3, .int .i64 a1_4, .int .i64 a1_5, .int .i64 a1_6, .string a1_7] 24 (0, 0)) (by (with_reducible repeat (first | refine blk_drewN ?_ _ | refine blk_drew ?_ | refine blk_alloc ?_ _)); exact BK200.out) hb); have n2_ := Aside0.mk (below_step (by repeat (first | (with_reducible first | exact HB.out | apply below_alloc | apply pw_below_drewN | apply below_drew1 | refine below_set ?_ GE200.out) | exact HB.out)) hb); have n3_ := Aside0.mk (hbox); have n4_ := Aside0.mk ((by rw [hg]; exact (below_size (by repeat (first | (with_reducible first | exact HB.out | apply below_alloc | apply pw_below_drewN | apply below_drew1 | refine below_set ?_ GE200.out) | exact HB.out))) : w.heap.size ≤ gb259)); have n5_ := Aside0.mk ((by rw [hg]; exact (below_size (by repeat (first | (with_reducible first | exact HB.out | apply below_alloc | apply pw_below_drewN | apply below_drew1 | refine below_set ?_ GE200.out) | exact HB.out))) : w.heap.size ≤ gb259)); have n6_ := Aside0.mk ((by rw [hg]; exact Nat.ne_of_lt (blk_lt (g := gb200) (o := .cells #[.int .i64 a1_0, .int .i64 a1_1, .int .u32 a1_2, .int .u32 a1_3, .int .i64 a1_4, .int .i64 a1_5, .int .i64 a1_6, .string a1_7] 24 (0, 0)) (by (with_reducible repeat (first | refine blk_drewN ?_ _ | refine blk_drew ?_ | refine blk_alloc ?_ _)); exact BK200.out)) : gb200 ≠ gb259)); have n7_ := Aside0.mk ((by rw [hg]; exact Nat.ne_of_gt (blk_lt (g := gb200) (o := .cells #[.int .i64 a1_0, .int .i64 a1_1, .int .u32 a1_2, .int .u32 a1_3, .int .i64 a1_4, .int .i64 a1_5, .int .i64 a1_6, .string a1_7] 24 (0, 0)) (by (with_reducible repeat (first | refine blk_drewN ?_ _ | refine blk_drew ?_ | refine blk_alloc ?_ _)); exact BK200.out)) : gb259 ≠ gb200)); clear HO214; clear BK200; clear HB; have HO214 := n0_; have BK200 := n1_; have HB := n2_; have BK259 := n3_; have GW259 := n4_; have GE259 := n5_; have NB200_259 := n6_; have NB259_200 := n7_; clear n0_ n1_ n2_ n3_ n4_ n5_ n6_ n7_; clear hb hbox hg; have hnb71 := NB259_200.out; have hnc71 := NB200_259.out; have hcz72_0 : w70.cell? ⟨gb259, 0, none⟩ = some (.int .i64 0) := (blk_cell BK259.out 0).trans rfl; have hcz72_1 : w70.cell? ⟨gb259, 1, none⟩ = some (.int .i64 0) := (blk_cell BK259.out 1).trans rfl; have hcz72_2 : w70.cell? ⟨gb259, 2, none⟩ = some (.int .u32 0) := (blk_cell BK259.out 2).trans rfl; have hcz72_3 : w70.cell? ⟨gb259, 3, none⟩ = some (.int .u32 0) := (blk_cell BK259.out 3).trans rfl; have hcz72_4 : w70.cell? ⟨gb259, 4, none⟩ = some (.int .i64 0) := (blk_cell BK259.out 4).trans rfl; have hcz72_5 : w70.cell? ⟨gb259, 5, none⟩ = some (.int .i64 0) := (blk_cell BK259.out 5).trans rfl; have hcz72_6 : w70.cell? ⟨gb259, 6, none⟩ = some (.int .i64 0) := (blk_cell BK259.out 6).trans rfl; have hcz72_7 : w70.cell? ⟨gb259, 7, none⟩ = some (.string (⟨#[]⟩ : ByteArray)) := (blk_cell BK259.out 7).trans rfl; have hfz72_0 := blk_frozen BK259.out 0; have hfz72_1 := blk_frozen BK259.out 1; have hfz72_2 := blk_frozen BK259.out 2; have hfz72_3 := blk_frozen BK259.out 3; have hfz72_4 := blk_frozen BK259.out 4; have hfz72_5 := blk_frozen BK259.out 5; have hfz72_6 := blk_frozen BK259.out 6; have hfz72_7 := blk_frozen BK259.out 7) | ((with_reducible refine gate_callee (f := 21) rfl ?_); refine goesL_ (some 70) rfl rfl Try.func21 (by kernel_rfl) rfl #[.string (strOfNums y248)] rfl (by (try simp only [List.map_toArray, List.map_cons, List.map_nil]); first | done | rfl | (simp only [List.length_drop, List.length_take]; rfl)) ?_; (with_reducible refine (weighbridgeref05_Parse.calls (strOfNums y248) t260 t261 t262 t263 t264 t265 t266 t267 t268 t269 _ A57.out).mono ?_); rintro e w73 ⟨rfl, hb⟩; (try clear A57); refine ⟨_, rfl, ?_⟩; have n0_ := Aside0.mk (Kb.Q_below (by (with_reducible repeat (first | apply Kb.Q_alloc | apply Kb.Q_drewN | apply Kb.Q_drew)); exact (Kb.Q_mono (Kb.Q_far (p := ⟨gb259, 7, none⟩) (Kb.Q_far (p := ⟨gb259, 6, none⟩) (Kb.Q_far (p := ⟨gb259, 5, none⟩) (Kb.Q_far (p := ⟨gb259, 4, none⟩) (Kb.Q_far (p := ⟨gb259, 3, none⟩) (Kb.Q_far (p := ⟨gb259, 2, none⟩) (Kb.Q_far (p := ⟨gb259, 1, none⟩) (Kb.Q_far (p := ⟨gb259, 0, none⟩) (Kb.Q_types HO214.out BK259.out (by decide)) (fun _ hk => hk.2) (.int .i64 t249)) (fun _ hk => hk.2) (.int .i64 t250)) (fun _ hk => hk.2) (.int .u32 t251)) (fun _ hk => hk.2) (.int .u32 t252)) (fun _ hk => hk.2) (.int .i64 t253)) (fun _ hk => hk.2) (.int .i64 t254)) (fun _ hk => hk.2) (.int .i64 t255)) (fun _ hk => hk.2) (.string t256)) (fun _ h_ => h_.1))) hb); have n1_ := Aside0.mk (blk_below (g := gb200) (o := .cells #[.int .i64 a1_0, .int .i64 a1_1, .int .u32 a1_2, .int .u32 a1_3, .int .i64 a1_4, .int .i64 a1_5, .int .i64 a1_6, .string a1_7] 24 (0, 0)) (by (with_reducible repeat (first | refine blk_drewN ?_ _ | refine blk_drew ?_ | refine blk_alloc ?_ _)); refine blk_far ?_ NB200_259.out _; (with_reducible repeat (first | refine blk_drewN ?_ _ | refine blk_drew ?_ | refine blk_alloc ?_ _)); refine blk_far ?_ NB200_259.out _; (with_reducible repeat (first | refine blk_drewN ?_ _ | refine blk_drew ?_ | refine blk_alloc ?_ _)); refine blk_far ?_ NB200_259.out _; (with_reducible repeat (first | refine blk_drewN ?_ _ | refine blk_drew ?_ | refine blk_alloc ?_ _)); refine blk_far ?_ NB200_259.out _; (with_reducible repeat (first | refine blk_drewN ?_ _ | refine blk_drew ?_ | refine blk_alloc ?_ _)); refine blk_far ?_ NB200_259.out _; (with_reducible repeat (first | refine blk_drewN ?_ _ | refine blk_drew ?_ | refine blk_alloc ?_ _)); refine blk_far ?_ NB200_259.out _; (with_reducible repeat (first | refine blk_drewN ?_ _ | refine blk_drew ?_ | refine blk_alloc ?_ _)); refine blk_far ?_ NB200_259.out _; (with_reducible repeat (first | refine blk_drewN ?_ _ | refine blk_drew ?_ | refine blk_alloc ?_ _)); refine blk_far ?_ NB200_259.out _; (with_reducible repeat (first | refine blk_drewN ?_ _ | refine blk_drew ?_ | refine blk_alloc ?_ _)); exact BK200.out) hb); have n2_ := Aside0.mk (blk_below (g := gb259) (o := .cells #[.int .i64 t249, .int .i64 t250, .int .u32 t251, .int .u32 t252, .int .i64 t253, .int .i64 t254, .int .i64 t255, .string t256] 24 (0, 0)) (by (with_reducible repeat (first | refine blk_drewN ?_ _ | refine blk_drew ?_ | refine blk_alloc ?_ _)); refine blk_put (cs := #[.int .i64 t249, .int .i64 t250, .int .u32 t251, .int .u32 t252, .int .i64 t253, .int .i64 t254, .int .i64 t255, .string (⟨#[]⟩ : ByteArray)]) ?_ 7 _ rfl; (with_reducible repeat (first | refine blk_drewN ?_ _ | refine blk_drew ?_ | refine blk_alloc ?_ _)); refine blk_put (cs := #[.int .i64 t249, .int .i64 t250, .int .u32 t251, .int .u32 t252, .int .i64 t253, .int .i64 t254, .int .i64 0, .string (⟨#[]⟩ : ByteArray)]) ?_ 6 _ rfl; (with_reducible repeat (first | refine blk_drewN ?_ _ | refine blk_drew ?_ | refine blk_alloc ?_ _)); refine blk_put (cs := #[.int .i64 t249, .int .i64 t250, .int .u32 t251, .int .u32 t252, .int .i64 t253, .int .i64 0, .int .i64 0, .string (⟨#[]⟩ : ByteArray)]) ?_ 5 _ rfl; (with_reducible repeat (first | refine blk_drewN ?_ _ | refine blk_drew ?_ | refine blk_alloc ?_ _)); refine blk_put (cs := #[.int .i64 t249, .int .i64 t250, .int .u32 t251, .int .u32 t252, .int .i64 0, .int .i64 0, .int .i64 0, .string (⟨#[]⟩ : ByteArray)]) ?_ 4 _ rfl; (with_reducible repeat (first | refine blk_drewN ?_ _ | refine blk_drew ?_ | refine blk_alloc ?_ _)); refine blk_put (cs := #[.int .i64 t249, .int .i64 t250, .int .u32 t251, .int .u32 0, .int .i64 0, .int .i64 0, .int .i64 0, .string (⟨#[]⟩ : ByteArray)]) ?_ 3 _ rfl; (with_reducible repeat (first | refine blk_drewN ?_ _ | refine blk_drew ?_ | refine blk_alloc ?_ _)); refine blk_put (cs := #[.int .i64 t249, .int .i64 t250, .int .u32 0, .int .u32 0, .int .i64 0, .int .i64 0, .int .i64 0, .string (⟨#[]⟩ : ByteArray)]) ?_ 2 _ rfl; (with_reducible repeat (first | refine blk_drewN ?_ _ | refine blk_drew ?_ | refine blk_alloc ?_ _)); refine blk_put (cs := #[.int .i64 t249, .int .i64 0, .int .u32 0, .int .u32 0, .int .i64 0, .int .i64 0, .int .i64 0, .string (⟨#[]⟩ : ByteArray)]) ?_ 1 _ rfl; (with_reducible repeat (first | refine blk_drewN ?_ _ | refine blk_drew ?_ | refine blk_alloc ?_ _)); refine blk_put (cs := #[.int .i64 0, .int .i64 0, .int .u32 0, .int .u32 0, .int .i64 0, .int .i64 0, .int .i64 0, .string (⟨#[]⟩ : ByteArray)]) ?_ 0 _ rfl; (with_reducible repeat (first | refine blk_drewN ?_ _ | refine blk_drew ?_ | refine blk_alloc ?_ _)); exact BK259.out) hb); have n3_ := Aside0.mk (below_step (by repeat (first | (with_reducible first | exact HB.out | apply below_alloc | apply pw_below_drewN | apply below_drew1 | refine below_set ?_ GE200.out | refine below_set ?_ GE259.out) | exact HB.out)) hb); clear HO214; clear BK200; clear BK259; clear HB; have HO214 := n0_; have BK200 := n1_; have BK259 := n2_; have HB := n3_; clear n0_ n1_ n2_ n3_; (try clear hb); (try clear hb2); (try clear hk); (try clear hi)) | ((with_reducible refine gate_dst (N := 20) rfl ?_); refine box_event ?hg (N := 20) ?hd (cs := #[.int .i64 0, .int .i64 0, .int .u32 0, .int .u32 0, .int .i64 0, .int .i64 0, .int .i64 0, .string (⟨#[]⟩ : ByteArray)]) (t := 31) ?hr ?_; (case hd => rfl); (case hg => rfl); (case hr => first | (go_simp; done) | (go_simp; rfl)); intro gb270 hg w74 hbox hb; have n0_ := Aside0.mk (Kb.Q_below (by (with_reducible repeat (first | apply Kb.Q_alloc | apply Kb.Q_drewN | apply Kb.Q_drew)); exact HO214.out) hb); have n1_ := Aside0.mk (blk_below (g := gb200) (o := .cells #[.int .i64 a1_0, .int .i64 a1_1, .int .u32 a1_2, .int .u32 a1_3, .int .i64 a1_4, .int .i64 a1_5, .int .i64 a1_6, .string a1_7] 24 (0, 0)) (by (with_reducible repeat (first | refine blk_drewN ?_ _ | refine blk_drew ?_ | refine blk_alloc ?_ _)); exact BK200.out) hb); have n2_ := Aside0.mk (blk_below (g := gb259) (o := .cells #[.int .i64 t249, .int .i64 t250, .int .u32 t251, .int .u32 t252, .int .i64 t253, .int .i64 t254, .int .i64 t255, .string t256] 24 (0, 0)) (by (with_reducible repeat (first | refine blk_drewN ?_ _ | refine blk_drew ?_ | refine blk_alloc ?_ _)); exact BK259.out) hb); have n3_ := Aside0.mk (below_step (by repeat (first | (with_reducible first | exact HB.out | apply below_alloc | apply pw_below_drewN | apply below_drew1 | refine below_set ?_ GE200.out | refine below_set ?_ GE259.out) | exact HB.out)) hb); have n4_ := Aside0.mk (hbox); have n5_ := Aside0.mk ((by rw [hg]; exact (below_size (by repeat (first | (with_reducible first | exact HB.out | apply below_alloc | apply pw_below_drewN | apply below_drew1 | refine below_set ?_ GE200.out | refine below_set ?_ GE259.out) | exact HB.out))) : w.heap.size ≤ gb270)); have n6_ := Aside0.mk ((by rw [hg]; exact (below_size (by repeat (first | (with_reducible first | exact HB.out | apply below_alloc | apply pw_below_drewN | apply below_drew1 | refine below_set ?_ GE200.out | refine below_set ?_ GE259.out) | exact HB.out))) : w.heap.size ≤ gb270)); have n7_ := Aside0.mk ((by rw [hg]; exact Nat.ne_of_lt (blk_lt (g := gb200) (o := .cells #[.int .i64 a1_0, .int .i64 a1_1, .int .u32 a1_2, .int .u32 a1_3, .int .i64 a1_4, .int .i64 a1_5, .int .i64 a1_6, .string a1_7] 24 (0, 0)) (by (with_reducible repeat (first | refine blk_drewN ?_ _ | refine blk_drew ?_ | refine blk_alloc ?_ _)); exact BK200.out)) : gb200 ≠ gb270)); have n8_ := Aside0.mk ((by rw [hg]; exact Nat.ne_of_gt (blk_lt (g := gb200) (o := .cells #[.int .i64 a1_0, .int .i64 a1_1, .int .u32 a1_2, .int .u32 a1_3, .int .i64 a1_4, .int .i64 a1_5, .int .i64 a1_6, .string a1_7] 24 (0, 0)) (by (with_reducible repeat (first | refine blk_drewN ?_ _ | refine blk_drew ?_ | refine blk_alloc ?_ _)); exact BK200.out)) : gb270 ≠ gb200)); have n9_ := Aside0.mk ((by rw [hg]; exact Nat.ne_of_lt (blk_lt (g := gb259) (o := .cells #[.int .i64 t249, .int .i64 t250, .int .u32 t251, .int .u32 t252, .int .i64 t253, .int .i64 t254, .int .i64 t255, .string t256] 24 (0, 0)) (by (with_reducible repeat (first | refine blk_drewN ?_ _ | refine blk_drew ?_ | refine blk_alloc ?_ _)); exact BK259.out)) : gb259 ≠ gb270)); have n10_ := Aside0.mk ((by rw [hg]; exact Nat.ne_of_gt (blk_lt (g := gb259) (o := .cells #[.int .i64 t249, .int .i64 t250, .int .u32 t251, .int .u32 t252, .int .i64 t253, .int .i64 t254, .int .i64 t255, .string t256] 24 (0, 0)) (by (with_reducible repeat (first | refine blk_drewN ?_ _ | refine blk_drew ?_ | refine blk_alloc ?_ _)); exact BK259.out)) : gb270 ≠ gb259)); clear HO214; clear BK200; clear BK259; clear HB; have HO214 := n0_; have BK200 := n1_; have BK259 := n2_; have HB := n3_; have BK270 := n4_; have GW270 := n5_; have GE270 := n6_; have NB200_270 := n7_; have NB270_200 := n8_; have NB259_270 := n9_; have NB270_259 := n10_; clear n0_ n1_ n2_ n3_ n4_ n5_ n6_ n7_ n8_ n9_ n10_; clear hb hbox hg; have hnb75 := NB270_200.out; have hnc75 := NB200_270.out; have hnb76 := NB270_259.out; have hnc76 := NB259_270.out; have hcz77_0 : w74.cell? ⟨gb270, 0, none⟩ = some (.int .i64 0) := (blk_cell BK270.out 0).trans rfl; have hcz77_1 : w74.cell? ⟨gb270, 1, none⟩ = some (.int .i64 0) := (blk_cell BK270.out 1).trans rfl; have hcz77_2 : w74.cell? ⟨gb270, 2, none⟩ = some (.int .u32 0) := (blk_cell BK270.out 2).trans rfl; have hcz77_3 : w74.cell? ⟨gb270, 3, none⟩ = some (.int .u32 0) := (blk_cell BK270.out 3).trans rfl; have hcz77_4 : w74.cell? ⟨gb270, 4, none⟩ = some (.int .i64 0) := (blk_cell BK270.out 4).trans rfl; have hcz77_5 : w74.cell? ⟨gb270, 5, none⟩ = some (.int .i64 0) := (blk_cell BK270.out 5).trans rfl; have hcz77_6 : w74.cell? ⟨gb270, 6, none⟩ = some (.int .i64 0) := (blk_cell BK270.out 6).trans rfl; have hcz77_7 : w74.cell? ⟨gb270, 7, none⟩ = some (.string (⟨#[]⟩ : ByteArray)) := (blk_cell BK270.out 7).trans rfl; have hfz77_0 := blk_frozen BK270.out 0; have hfz77_1 := blk_frozen BK270.out 1; have hfz77_2 := blk_frozen BK270.out 2; have hfz77_3 := blk_frozen BK270.out 3; have hfz77_4 := blk_frozen BK270.out 4; have hfz77_5 := blk_frozen BK270.out 5; have hfz77_6 := blk_frozen BK270.out 6; have hfz77_7 := blk_frozen BK270.out 7))
                          have n0_ : Aside0 (Kb.Q (Kd.int .u8) 5 ((((((((w74.setCell ⟨gb270, 0, none⟩ (.int .i64 t260)).setCell ⟨gb270, 1, none⟩ (.int .i64 t261)).setCell ⟨gb270, 2, none⟩ (.int .u32 t262)).setCell ⟨gb270, 3, none⟩ (.int .u32 t263)).setCell ⟨gb270, 4, none⟩ (.int .i64 t264)).setCell ⟨gb270, 5, none⟩ (.int .i64 t265)).setCell ⟨gb270, 6, none⟩ (.int .i64 t266)).setCell ⟨gb270, 7, none⟩ (.string t267)) w.heap.size (fun _ => True) (.slice (some ⟨go55, 0, none⟩) y212.length co65) y248) := ⟨by (with_reducible repeat (first | apply Kb.Q_alloc | apply Kb.Q_drewN | apply Kb.Q_drew)); exact Kb.Q_mono (Kb.Q_far (p := ⟨gb270, 7, none⟩) (Kb.Q_far (p := ⟨gb270, 6, none⟩) (Kb.Q_far (p := ⟨gb270, 5, none⟩) (Kb.Q_far (p := ⟨gb270, 4, none⟩) (Kb.Q_far (p := ⟨gb270, 3, none⟩) (Kb.Q_far (p := ⟨gb270, 2, none⟩) (Kb.Q_far (p := ⟨gb270, 1, none⟩) (Kb.Q_far (p := ⟨gb270, 0, none⟩) (Kb.Q_types HO214.out BK270.out (by decide)) (fun _ hk => hk.2) (.int .i64 t260)) (fun _ hk => hk.2) (.int .i64 t261)) (fun _ hk => hk.2) (.int .u32 t262)) (fun _ hk => hk.2) (.int .u32 t263)) (fun _ hk => hk.2) (.int .i64 t264)) (fun _ hk => hk.2) (.int .i64 t265)) (fun _ hk => hk.2) (.int .i64 t266)) (fun _ hk => hk.2) (.string t267)) (fun _ hk => trivial)⟩
                          have n1_ : Aside0 (((((((((w74.setCell ⟨gb270, 0, none⟩ (.int .i64 t260)).setCell ⟨gb270, 1, none⟩ (.int .i64 t261)).setCell ⟨gb270, 2, none⟩ (.int .u32 t262)).setCell ⟨gb270, 3, none⟩ (.int .u32 t263)).setCell ⟨gb270, 4, none⟩ (.int .i64 t264)).setCell ⟨gb270, 5, none⟩ (.int .i64 t265)).setCell ⟨gb270, 6, none⟩ (.int .i64 t266)).setCell ⟨gb270, 7, none⟩ (.string t267)).heap[gb200]? = some (.cells #[.int .i64 a1_0, .int .i64 a1_1, .int .u32 a1_2, .int .u32 a1_3, .int .i64 a1_4, .int .i64 a1_5, .int .i64 a1_6, .string a1_7] 24 (0, 0))) := ⟨by (with_reducible repeat (first | refine blk_drewN ?_ _ | refine blk_drew ?_ | refine blk_alloc ?_ _)); refine blk_far ?_ NB200_270.out _; (with_reducible repeat (first | refine blk_drewN ?_ _ | refine blk_drew ?_ | refine blk_alloc ?_ _)); refine blk_far ?_ NB200_270.out _; (with_reducible repeat (first | refine blk_drewN ?_ _ | refine blk_drew ?_ | refine blk_alloc ?_ _)); refine blk_far ?_ NB200_270.out _; (with_reducible repeat (first | refine blk_drewN ?_ _ | refine blk_drew ?_ | refine blk_alloc ?_ _)); refine blk_far ?_ NB200_270.out _; (with_reducible repeat (first | refine blk_drewN ?_ _ | refine blk_drew ?_ | refine blk_alloc ?_ _)); refine blk_far ?_ NB200_270.out _; (with_reducible repeat (first | refine blk_drewN ?_ _ | refine blk_drew ?_ | refine blk_alloc ?_ _)); refine blk_far ?_ NB200_270.out _; (with_reducible repeat (first | refine blk_drewN ?_ _ | refine blk_drew ?_ | refine blk_alloc ?_ _)); refine blk_far ?_ NB200_270.out _; (with_reducible repeat (first | refine blk_drewN ?_ _ | refine blk_drew ?_ | refine blk_alloc ?_ _)); refine blk_far ?_ NB200_270.out _; (with_reducible repeat (first | refine blk_drewN ?_ _ | refine blk_drew ?_ | refine blk_alloc ?_ _)); exact BK200.out⟩
                          have n2_ : Aside0 (((((((((w74.setCell ⟨gb270, 0, none⟩ (.int .i64 t260)).setCell ⟨gb270, 1, none⟩ (.int .i64 t261)).setCell ⟨gb270, 2, none⟩ (.int .u32 t262)).setCell ⟨gb270, 3, none⟩ (.int .u32 t263)).setCell ⟨gb270, 4, none⟩ (.int .i64 t264)).setCell ⟨gb270, 5, none⟩ (.int .i64 t265)).setCell ⟨gb270, 6, none⟩ (.int .i64 t266)).setCell ⟨gb270, 7, none⟩ (.string t267)).heap[gb259]? = some (.cells #[.int .i64 t249, .int .i64 t250, .int .u32 t251, .int .u32 t252, .int .i64 t253, .int .i64 t254, .int .i64 t255, .string t256] 24 (0, 0))) := ⟨by (with_reducible repeat (first | refine blk_drewN ?_ _ | refine blk_drew ?_ | refine blk_alloc ?_ _)); refine blk_far ?_ NB259_270.out _; (with_reducible repeat (first | refine blk_drewN ?_ _ | refine blk_drew ?_ | refine blk_alloc ?_ _)); refine blk_far ?_ NB259_270.out _; (with_reducible repeat (first | refine blk_drewN ?_ _ | refine blk_drew ?_ | refine blk_alloc ?_ _)); refine blk_far ?_ NB259_270.out _; (with_reducible repeat (first | refine blk_drewN ?_ _ | refine blk_drew ?_ | refine blk_alloc ?_ _)); refine blk_far ?_ NB259_270.out _; (with_reducible repeat (first | refine blk_drewN ?_ _ | refine blk_drew ?_ | refine blk_alloc ?_ _)); refine blk_far ?_ NB259_270.out _; (with_reducible repeat (first | refine blk_drewN ?_ _ | refine blk_drew ?_ | refine blk_alloc ?_ _)); refine blk_far ?_ NB259_270.out _; (with_reducible repeat (first | refine blk_drewN ?_ _ | refine blk_drew ?_ | refine blk_alloc ?_ _)); refine blk_far ?_ NB259_270.out _; (with_reducible repeat (first | refine blk_drewN ?_ _ | refine blk_drew ?_ | refine blk_alloc ?_ _)); refine blk_far ?_ NB259_270.out _; (with_reducible repeat (first | refine blk_drewN ?_ _ | refine blk_drew ?_ | refine blk_alloc ?_ _)); exact BK259.out⟩
                          have n3_ : Aside0 (((((((((w74.setCell ⟨gb270, 0, none⟩ (.int .i64 t260)).setCell ⟨gb270, 1, none⟩ (.int .i64 t261)).setCell ⟨gb270, 2, none⟩ (.int .u32 t262)).setCell ⟨gb270, 3, none⟩ (.int .u32 t263)).setCell ⟨gb270, 4, none⟩ (.int .i64 t264)).setCell ⟨gb270, 5, none⟩ (.int .i64 t265)).setCell ⟨gb270, 6, none⟩ (.int .i64 t266)).setCell ⟨gb270, 7, none⟩ (.string t267)).heap[gb270]? = some (.cells #[.int .i64 t260, .int .i64 t261, .int .u32 t262, .int .u32 t263, .int .i64 t264, .int .i64 t265, .int .i64 t266, .string t267] 31 (0, 0))) := ⟨by (with_reducible repeat (first | refine blk_drewN ?_ _ | refine blk_drew ?_ | refine blk_alloc ?_ _)); refine blk_put (cs := #[.int .i64 t260, .int .i64 t261, .int .u32 t262, .int .u32 t263, .int .i64 t264, .int .i64 t265, .int .i64 t266, .string (⟨#[]⟩ : ByteArray)]) ?_ 7 _ rfl; (with_reducible repeat (first | refine blk_drewN ?_ _ | refine blk_drew ?_ | refine blk_alloc ?_ _)); refine blk_put (cs := #[.int .i64 t260, .int .i64 t261, .int .u32 t262, .int .u32 t263, .int .i64 t264, .int .i64 t265, .int .i64 0, .string (⟨#[]⟩ : ByteArray)]) ?_ 6 _ rfl; (with_reducible repeat (first | refine blk_drewN ?_ _ | refine blk_drew ?_ | refine blk_alloc ?_ _)); refine blk_put (cs := #[.int .i64 t260, .int .i64 t261, .int .u32 t262, .int .u32 t263, .int .i64 t264, .int .i64 0, .int .i64 0, .string (⟨#[]⟩ : ByteArray)]) ?_ 5 _ rfl; (with_reducible repeat (first | refine blk_drewN ?_ _ | refine blk_drew ?_ | refine blk_alloc ?_ _)); refine blk_put (cs := #[.int .i64 t260, .int .i64 t261, .int .u32 t262, .int .u32 t263, .int .i64 0, .int .i64 0, .int .i64 0, .string (⟨#[]⟩ : ByteArray)]) ?_ 4 _ rfl; (with_reducible repeat (first | refine blk_drewN ?_ _ | refine blk_drew ?_ | refine blk_alloc ?_ _)); refine blk_put (cs := #[.int .i64 t260, .int .i64 t261, .int .u32 t262, .int .u32 0, .int .i64 0, .int .i64 0, .int .i64 0, .string (⟨#[]⟩ : ByteArray)]) ?_ 3 _ rfl; (with_reducible repeat (first | refine blk_drewN ?_ _ | refine blk_drew ?_ | refine blk_alloc ?_ _)); refine blk_put (cs := #[.int .i64 t260, .int .i64 t261, .int .u32 0, .int .u32 0, .int .i64 0, .int .i64 0, .int .i64 0, .string (⟨#[]⟩ : ByteArray)]) ?_ 2 _ rfl; (with_reducible repeat (first | refine blk_drewN ?_ _ | refine blk_drew ?_ | refine blk_alloc ?_ _)); refine blk_put (cs := #[.int .i64 t260, .int .i64 0, .int .u32 0, .int .u32 0, .int .i64 0, .int .i64 0, .int .i64 0, .string (⟨#[]⟩ : ByteArray)]) ?_ 1 _ rfl; (with_reducible repeat (first | refine blk_drewN ?_ _ | refine blk_drew ?_ | refine blk_alloc ?_ _)); refine blk_put (cs := #[.int .i64 0, .int .i64 0, .int .u32 0, .int .u32 0, .int .i64 0, .int .i64 0, .int .i64 0, .string (⟨#[]⟩ : ByteArray)]) ?_ 0 _ rfl; (with_reducible repeat (first | refine blk_drewN ?_ _ | refine blk_drew ?_ | refine blk_alloc ?_ _)); exact BK270.out⟩
                          have n4_ : Aside0 (Below w.heap.size w ((((((((w74.setCell ⟨gb270, 0, none⟩ (.int .i64 t260)).setCell ⟨gb270, 1, none⟩ (.int .i64 t261)).setCell ⟨gb270, 2, none⟩ (.int .u32 t262)).setCell ⟨gb270, 3, none⟩ (.int .u32 t263)).setCell ⟨gb270, 4, none⟩ (.int .i64 t264)).setCell ⟨gb270, 5, none⟩ (.int .i64 t265)).setCell ⟨gb270, 6, none⟩ (.int .i64 t266)).setCell ⟨gb270, 7, none⟩ (.string t267))) := ⟨by repeat (first | (with_reducible first | exact HB.out | apply below_alloc | apply pw_below_drewN | apply below_drew1 | refine below_set ?_ GE200.out | refine below_set ?_ GE259.out | refine below_set ?_ GE270.out) | exact HB.out)⟩
                          (try clear HO214)
                          (try clear BK200)
                          (try clear BK259)
                          (try clear BK270)
                          (try clear HB)
                          generalize ((((((((w74.setCell ⟨gb270, 0, none⟩ (.int .i64 t260)).setCell ⟨gb270, 1, none⟩ (.int .i64 t261)).setCell ⟨gb270, 2, none⟩ (.int .u32 t262)).setCell ⟨gb270, 3, none⟩ (.int .u32 t263)).setCell ⟨gb270, 4, none⟩ (.int .i64 t264)).setCell ⟨gb270, 5, none⟩ (.int .i64 t265)).setCell ⟨gb270, 6, none⟩ (.int .i64 t266)).setCell ⟨gb270, 7, none⟩ (.string t267)) = w78 at n0_ n1_ n2_ n3_ n4_ ⊢
                          have HO214 := n0_
                          have BK200 := n1_
                          have BK259 := n2_
                          have BK270 := n3_
                          have HB := n4_
                          clear n0_ n1_ n2_ n3_ n4_
                          have n0_ := Aside0.mk (Kb.Q_drew HO214.out)
                          have n1_ := Aside0.mk (blk_drew BK200.out)
                          have n2_ := Aside0.mk (blk_drew BK259.out)
                          have n3_ := Aside0.mk (blk_drew BK270.out)
                          have n4_ := Aside0.mk (below_drew1 HB.out)
                          clear HO214
                          clear BK200
                          clear BK259
                          clear BK270
                          clear HB
                          have HO214 := n0_
                          have BK200 := n1_
                          have BK259 := n2_
                          have BK270 := n3_
                          have HB := n4_
                          clear n0_ n1_ n2_ n3_ n4_
                          refine start_ (n := 18) (S := fun w' => w'.cell? ⟨gb259, 0, none⟩ = some (.int .i64 t249) ∧ w'.cell? ⟨gb259, 1, none⟩ = some (.int .i64 t250) ∧ w'.cell? ⟨gb259, 2, none⟩ = some (.int .u32 t251) ∧ w'.cell? ⟨gb259, 3, none⟩ = some (.int .u32 t252) ∧ w'.cell? ⟨gb259, 4, none⟩ = some (.int .i64 t253) ∧ w'.cell? ⟨gb259, 5, none⟩ = some (.int .i64 t254) ∧ w'.cell? ⟨gb259, 6, none⟩ = some (.int .i64 t255) ∧ w'.cell? ⟨gb259, 7, none⟩ = some (.string t256) ∧ w'.cell? ⟨gb270, 0, none⟩ = some (.int .i64 t260) ∧ w'.cell? ⟨gb270, 1, none⟩ = some (.int .i64 t261) ∧ w'.cell? ⟨gb270, 2, none⟩ = some (.int .u32 t262) ∧ w'.cell? ⟨gb270, 3, none⟩ = some (.int .u32 t263) ∧ w'.cell? ⟨gb270, 4, none⟩ = some (.int .i64 t264) ∧ w'.cell? ⟨gb270, 5, none⟩ = some (.int .i64 t265) ∧ w'.cell? ⟨gb270, 6, none⟩ = some (.int .i64 t266) ∧ w'.cell? ⟨gb270, 7, none⟩ = some (.string t267)) (ds := []) #[false, false, false, false, false, false, false, false, false, false, false, false, false, false, false, false, false, false] (by kernel_rfl) rfl rfl ⟨(blk_cell BK259.out 0).trans rfl, (blk_cell BK259.out 1).trans rfl, (blk_cell BK259.out 2).trans rfl, (blk_cell BK259.out 3).trans rfl, (blk_cell BK259.out 4).trans rfl, (blk_cell BK259.out 5).trans rfl, (blk_cell BK259.out 6).trans rfl, (blk_cell BK259.out 7).trans rfl, (blk_cell BK270.out 0).trans rfl, (blk_cell BK270.out 1).trans rfl, (blk_cell BK270.out 2).trans rfl, (blk_cell BK270.out 3).trans rfl, (blk_cell BK270.out 4).trans rfl, (blk_cell BK270.out 5).trans rfl, (blk_cell BK270.out 6).trans rfl, (blk_cell BK270.out 7).trans rfl⟩ (fun hHeld => ?_); refine with_tabW weighbridgelaw05_TcpParses.tab13 weighbridgelaw05_TcpParses.bits13 (fun HT_ HW_ => ?_)
                          generalize w78.drew = w79 at HO214 BK200 BK259 BK270 HB hHeld ⊢
                          refine pure_ (i := 0) (N := some 74) (v := ?_) (a' := ?_) #[true, false, false, false, false, false, false, false, false, false, false, false, false, false, false, false, false, false] rfl rfl (any_of HT_.out (by kernel_rfl)) (fun _ _ _ h => h) (Or.inl ⟨by rfl, ?_⟩) ?_ ?_
                          rotate_left
                          · intro w'
                            go_simp
                            with_reducible rfl
                          rotate_left
                          · simp only [Act.put, List.setIfInBounds_toArray, List.set_cons_zero, List.set_cons_succ, i64_w, i32_w]
                            rfl
                          refine pure_ (i := 1) (N := some 75) (v := ?_) (a' := ?_) #[true, true, false, false, false, false, false, false, false, false, false, false, false, false, false, false, false, false] rfl rfl (any_of HT_.out (by kernel_rfl)) (fun _ _ _ h => h) (Or.inl ⟨by rfl, ?_⟩) ?_ ?_
                          rotate_left
                          · intro w'
                            go_simp
                            with_reducible rfl
                          rotate_left
                          · simp only [Act.put, List.setIfInBounds_toArray, List.set_cons_zero, List.set_cons_succ, i64_w, i32_w]
                            rfl
                          refine take_ (i := 2) (N := some 76) (v := ?_) (a' := ?_) #[true, true, true, false, false, false, false, false, false, false, false, false, false, false, false, false, false, false] rfl rfl (take_ofW HT_.out HW_.out (by kernel_rfl)) (fun _ _ _ h => h) (Or.inl ⟨by rfl, ?_⟩) hHeld ?_ ?_
                          rotate_left
                          · rintro w' ⟨s0, s1, s2, s3, s4, s5, s6, s7, s8, s9, s10, s11, s12, s13, s14, s15⟩
                            go_simp
                            with_reducible rfl
                          rotate_left
                          · simp only [Act.put, List.setIfInBounds_toArray, List.set_cons_zero, List.set_cons_succ, i64_w, i32_w]
                            rfl
                          refine take_ (i := 4) (N := some 78) (v := ?_) (a' := ?_) #[true, true, true, false, true, false, false, false, false, false, false, false, false, false, false, false, false, false] rfl rfl (take_ofW HT_.out HW_.out (by kernel_rfl)) (fun _ _ _ h => h) (Or.inl ⟨by rfl, ?_⟩) hHeld ?_ ?_
                          rotate_left
                          · rintro w' ⟨s0, s1, s2, s3, s4, s5, s6, s7, s8, s9, s10, s11, s12, s13, s14, s15⟩
                            go_simp
                            with_reducible rfl
                          rotate_left
                          · simp only [Act.put, List.setIfInBounds_toArray, List.set_cons_zero, List.set_cons_succ, i64_w, i32_w]
                            rfl
                          refine one_ (i := 3) (N := some 77) #[true, true, true, true, true, false, false, false, false, false, false, false, false, false, false, false, false, false] rfl rfl (one_of HT_.out (by kernel_rfl)) (by decide) (fun K hK => ?_)
                          refine goes_ Try.func13 (by kernel_rfl) rfl #[.agg #[.int .i64 t249, .int .i64 t250, .int .u32 t251, .int .u32 t252, .int .i64 t253, .int .i64 t254, .int .i64 t255, .string t256]] (by rfl) rfl rfl (by (try simp only [List.map_toArray, List.map_cons, List.map_nil]); first | done | rfl | (simp only [List.length_drop, List.length_take]; rfl)) ?_
                          with_reducible refine (weighbridgelaw05_ref.calls t249 t250 t251 t252 t253 t254 t255 t256 t271 t272 t273 t274 t275 t276 t277 t278 _ A59.out).mono ?_
                          rintro e w80 ⟨rfl, hb⟩
                          refine ⟨_, rfl, ?_⟩
                          have n0_ := Aside0.mk (Kb.Q_below (by (with_reducible repeat (first | apply Kb.Q_alloc | apply Kb.Q_drewN | apply Kb.Q_drew)); exact HO214.out) hb)
                          have n1_ := Aside0.mk (blk_below (g := gb200) (o := .cells #[.int .i64 a1_0, .int .i64 a1_1, .int .u32 a1_2, .int .u32 a1_3, .int .i64 a1_4, .int .i64 a1_5, .int .i64 a1_6, .string a1_7] 24 (0, 0)) (by (with_reducible repeat (first | refine blk_drewN ?_ _ | refine blk_drew ?_ | refine blk_alloc ?_ _)); exact BK200.out) hb)
                          have n2_ := Aside0.mk (blk_below (g := gb259) (o := .cells #[.int .i64 t249, .int .i64 t250, .int .u32 t251, .int .u32 t252, .int .i64 t253, .int .i64 t254, .int .i64 t255, .string t256] 24 (0, 0)) (by (with_reducible repeat (first | refine blk_drewN ?_ _ | refine blk_drew ?_ | refine blk_alloc ?_ _)); exact BK259.out) hb)
                          have n3_ := Aside0.mk (blk_below (g := gb270) (o := .cells #[.int .i64 t260, .int .i64 t261, .int .u32 t262, .int .u32 t263, .int .i64 t264, .int .i64 t265, .int .i64 t266, .string t267] 31 (0, 0)) (by (with_reducible repeat (first | refine blk_drewN ?_ _ | refine blk_drew ?_ | refine blk_alloc ?_ _)); exact BK270.out) hb)
                          have n4_ := Aside0.mk (below_step (by repeat (first | (with_reducible first | exact HB.out | apply below_alloc | apply pw_below_drewN | apply below_drew1 | refine below_set ?_ GE200.out | refine below_set ?_ GE259.out | refine below_set ?_ GE270.out) | exact HB.out)) hb)
                          clear HO214
                          clear BK200
                          clear BK259
                          clear BK270
                          clear HB
                          have HO214 := n0_
                          have BK200 := n1_
                          have BK259 := n2_
                          have BK270 := n3_
                          have HB := n4_
                          clear n0_ n1_ n2_ n3_ n4_
                          (try clear hb)
                          (try clear hb2)
                          (try clear hk)
                          (try clear hi)
                          refine hK.out _ _ ⟨(blk_cell BK259.out 0).trans rfl, (blk_cell BK259.out 1).trans rfl, (blk_cell BK259.out 2).trans rfl, (blk_cell BK259.out 3).trans rfl, (blk_cell BK259.out 4).trans rfl, (blk_cell BK259.out 5).trans rfl, (blk_cell BK259.out 6).trans rfl, (blk_cell BK259.out 7).trans rfl, (blk_cell BK270.out 0).trans rfl, (blk_cell BK270.out 1).trans rfl, (blk_cell BK270.out 2).trans rfl, (blk_cell BK270.out 3).trans rfl, (blk_cell BK270.out 4).trans rfl, (blk_cell BK270.out 5).trans rfl, (blk_cell BK270.out 6).trans rfl, (blk_cell BK270.out 7).trans rfl⟩ (fun hHeld => ?_)
                          clear hK K
                          refine norm_ (a' := ?_) ?_ ?_
                          rotate_left
                          · show Act.put _ (some 77) _ = _
                            simp only [Act.put, List.setIfInBounds_toArray, List.set_cons_zero, List.set_cons_succ, i64_w, i32_w]
                            rfl
                          refine pure_ (i := 5) (N := some 79) (v := ?_) (a' := ?_) #[true, true, true, true, true, true, false, false, false, false, false, false, false, false, false, false, false, false] rfl rfl (any_of HT_.out (by kernel_rfl)) (fun _ _ _ h => h) (Or.inl ⟨by rfl, ?_⟩) ?_ ?_
                          rotate_left
                          · intro w'
                            go_simp
                            with_reducible rfl
                          rotate_left
                          · simp only [Act.put, List.setIfInBounds_toArray, List.set_cons_zero, List.set_cons_succ, i64_w, i32_w]
                            rfl
                          refine pure_ (i := 6) (N := some 80) (v := ?_) (a' := ?_) #[true, true, true, true, true, true, true, false, false, false, false, false, false, false, false, false, false, false] rfl rfl (any_of HT_.out (by kernel_rfl)) (fun _ _ _ h => h) (Or.inl ⟨by rfl, ?_⟩) ?_ ?_
                          rotate_left
                          · intro w'
                            go_simp
                            with_reducible rfl
                          rotate_left
                          · simp only [Act.put, List.setIfInBounds_toArray, List.set_cons_zero, List.set_cons_succ, i64_w, i32_w]
                            rfl
                          refine pure_ (i := 7) (N := some 81) (v := ?_) (a' := ?_) #[true, true, true, true, true, true, true, true, false, false, false, false, false, false, false, false, false, false] rfl rfl (any_of HT_.out (by kernel_rfl)) (fun _ _ _ h => h) (Or.inl ⟨by rfl, ?_⟩) ?_ ?_
                          rotate_left
                          · intro w'
                            go_simp
                            with_reducible rfl
                          rotate_left
                          · simp only [Act.put, List.setIfInBounds_toArray, List.set_cons_zero, List.set_cons_succ, i64_w, i32_w]
                            rfl
                          refine pure_ (i := 8) (N := some 82) (v := ?_) (a' := ?_) #[true, true, true, true, true, true, true, true, true, false, false, false, false, false, false, false, false, false] rfl rfl (any_of HT_.out (by kernel_rfl)) (fun _ _ _ h => h) (Or.inl ⟨by rfl, ?_⟩) ?_ ?_
                          rotate_left
                          · intro w'
                            go_simp
                            with_reducible rfl
                          rotate_left
                          · simp only [Act.put, List.setIfInBounds_toArray, List.set_cons_zero, List.set_cons_succ, i64_w, i32_w]
                            rfl
                          refine pure_ (i := 9) (N := some 83) (v := ?_) (a' := ?_) #[true, true, true, true, true, true, true, true, true, true, false, false, false, false, false, false, false, false] rfl rfl (any_of HT_.out (by kernel_rfl)) (fun _ _ _ h => h) (Or.inl ⟨by rfl, ?_⟩) ?_ ?_
                          rotate_left
                          · intro w'
                            go_simp
                            with_reducible rfl
                          rotate_left
                          · simp only [Act.put, List.setIfInBounds_toArray, List.set_cons_zero, List.set_cons_succ, i64_w, i32_w]
                            rfl
                          refine pure_ (i := 10) (N := some 84) (v := ?_) (a' := ?_) #[true, true, true, true, true, true, true, true, true, true, true, false, false, false, false, false, false, false] rfl rfl (any_of HT_.out (by kernel_rfl)) (fun _ _ _ h => h) (Or.inl ⟨by rfl, ?_⟩) ?_ ?_
                          rotate_left
                          · intro w'
                            go_simp
                            with_reducible rfl
                          rotate_left
                          · simp only [Act.put, List.setIfInBounds_toArray, List.set_cons_zero, List.set_cons_succ, i64_w, i32_w]
                            rfl
                          refine pure_ (i := 11) (N := some 85) (v := ?_) (a' := ?_) #[true, true, true, true, true, true, true, true, true, true, true, true, false, false, false, false, false, false] rfl rfl (any_of HT_.out (by kernel_rfl)) (fun _ _ _ h => h) (Or.inl ⟨by rfl, ?_⟩) ?_ ?_
                          rotate_left
                          · intro w'
                            go_simp
                            with_reducible rfl
                          rotate_left
                          · simp only [Act.put, List.setIfInBounds_toArray, List.set_cons_zero, List.set_cons_succ, i64_w, i32_w]
                            rfl
                          refine pure_ (i := 12) (N := some 86) (v := ?_) (a' := ?_) #[true, true, true, true, true, true, true, true, true, true, true, true, true, false, false, false, false, false] rfl rfl (any_of HT_.out (by kernel_rfl)) (fun _ _ _ h => h) (Or.inl ⟨by rfl, ?_⟩) ?_ ?_
                          rotate_left
                          · intro w'
                            go_simp
                            with_reducible rfl
                          rotate_left
                          · simp only [Act.put, List.setIfInBounds_toArray, List.set_cons_zero, List.set_cons_succ, i64_w, i32_w]
                            rfl
                          refine pure_ (i := 13) (N := some 87) (v := ?_) (a' := ?_) #[true, true, true, true, true, true, true, true, true, true, true, true, true, true, false, false, false, false] rfl rfl (any_of HT_.out (by kernel_rfl)) (fun _ _ _ h => h) (Or.inl ⟨by rfl, ?_⟩) ?_ ?_
                          rotate_left
                          · intro w'
                            go_simp
                            with_reducible rfl
                          rotate_left
                          · simp only [Act.put, List.setIfInBounds_toArray, List.set_cons_zero, List.set_cons_succ, i64_w, i32_w]
                            rfl
                          refine pure_ (i := 14) (N := some 88) (v := ?_) (a' := ?_) #[true, true, true, true, true, true, true, true, true, true, true, true, true, true, true, false, false, false] rfl rfl (any_of HT_.out (by kernel_rfl)) (fun _ _ _ h => h) (Or.inl ⟨by rfl, ?_⟩) ?_ ?_
                          rotate_left
                          · intro w'
                            go_simp
                            with_reducible rfl
                          rotate_left
                          · simp only [Act.put, List.setIfInBounds_toArray, List.set_cons_zero, List.set_cons_succ, i64_w, i32_w]
                            rfl
                          refine pure_ (i := 15) (N := some 89) (v := ?_) (a' := ?_) #[true, true, true, true, true, true, true, true, true, true, true, true, true, true, true, true, false, false] rfl rfl (any_of HT_.out (by kernel_rfl)) (fun _ _ _ h => h) (Or.inl ⟨by rfl, ?_⟩) ?_ ?_
                          rotate_left
                          · intro w'
                            go_simp
                            with_reducible rfl
                          rotate_left
                          · simp only [Act.put, List.setIfInBounds_toArray, List.set_cons_zero, List.set_cons_succ, i64_w, i32_w]
                            rfl
                          refine pure_ (i := 16) (N := some 90) (v := ?_) (a' := ?_) #[true, true, true, true, true, true, true, true, true, true, true, true, true, true, true, true, true, false] rfl rfl (any_of HT_.out (by kernel_rfl)) (fun _ _ _ h => h) (Or.inl ⟨by rfl, ?_⟩) ?_ ?_
                          rotate_left
                          · intro w'
                            go_simp
                            with_reducible rfl
                          rotate_left
                          · simp only [Act.put, List.setIfInBounds_toArray, List.set_cons_zero, List.set_cons_succ, i64_w, i32_w]
                            rfl
                          refine pure_ (i := 17) (N := some 12) (v := ?_) (a' := ?_) #[true, true, true, true, true, true, true, true, true, true, true, true, true, true, true, true, true, true] rfl rfl (any_of HT_.out (by kernel_rfl)) (fun _ _ _ h => h) (Or.inl ⟨by rfl, ?_⟩) ?_ ?_
                          rotate_left
                          · intro w'
                            go_simp
                            with_reducible rfl
                          rotate_left
                          · simp only [Act.put, List.setIfInBounds_toArray, List.set_cons_zero, List.set_cons_succ, i64_w, i32_w]
                            rfl
                          refine done_ (done_of HT_.out (by kernel_rfl)) ?_
                          try go_wp2
                          go_ret
                          exact ⟨by first | rfl | (simp [errW_none, errW_some] <;> rfl) | (simp only [← hji52]; first | rfl | (simp [errW_none, errW_some] <;> rfl)) | (simp [*, errW_none, errW_some] <;> rfl), by repeat (first | (with_reducible first | exact HB.out | apply below_alloc | apply pw_below_drewN | apply below_drew1 | refine below_set ?_ GE200.out | refine below_set ?_ GE259.out | refine below_set ?_ GE270.out) | exact HB.out)⟩
                        · rw [if_neg c61] at H
                          have c61b0 : (t257.toList == t268.toList) = false := beq_eq_false_iff_ne.mpr c61
                          have c61b1 : (t257.toList != t268.toList) = true := bne_iff_ne.mpr c61
                          exact absurd ((Option.some.inj H).trans hr_) (by decide)
                      · rw [if_neg c60] at H
                        have c60b0 : (t271 == t260 && (t272 == t261 && (t273 == t262 && (t274 == t263 && (t275 == t264 && (t276 == t265 && (t277 == t266 && (t278.toList == t267.toList)))))))) = false := by simpa using c60
                        (try (have c60b1 : decide (t271 = t260 && (t272 == t261 && (t273 == t262 && (t274 == t263 && (t275 == t264 && (t276 == t265 && (t277 == t266 && (t278.toList == t267.toList)))))))) = false := by simpa using c60))
                        (try (have c60b2 : (t271 == t260 && (t272 == t261 && (t273 == t262 && (t274 == t263 && (t275 == t264 && (t276 == t265 && (t277 == t266 && (t278.toList == t267.toList)))))))) = false := by simpa using c60))
                        (try (have c60b3 : ¬ (t271 = t260 && (t272 == t261 && (t273 == t262 && (t274 == t263 && (t275 == t264 && (t276 == t265 && (t277 == t266 && (t278.toList == t267.toList)))))))) := by simpa using c60))
                        clear c60
                        exact absurd ((Option.some.inj H).trans hr_) (by decide)
                  · rw [if_neg c54] at H
                    exact absurd H (by simp)
                · rw [if_neg c53] at H
                  exact absurd H (by simp)
          · rw [if_neg c19] at H
            exact absurd H (by simp)
        · replace c18 := Bool.eq_false_iff.mpr c18
          subst c18
          have H1 : ((tcp_Parse.f a0).bind fun bt279 => ((weighbridgeref05_Parse.f a0).bind fun bt290 => (if true = true then ((weighbridgelaw05_ref.f bt279.1 bt279.2.1 bt279.2.2.1 bt279.2.2.2.1 bt279.2.2.2.2.1 bt279.2.2.2.2.2.1 bt279.2.2.2.2.2.2.1 bt279.2.2.2.2.2.2.2.1).bind fun bt301 => (if (bt301.1 == bt290.1 && (bt301.2.1 == bt290.2.1 && (bt301.2.2.1 == bt290.2.2.1 && (bt301.2.2.2.1 == bt290.2.2.2.1 && (bt301.2.2.2.2.1 == bt290.2.2.2.2.1 && (bt301.2.2.2.2.2.1 == bt290.2.2.2.2.2.1 && (bt301.2.2.2.2.2.2.1 == bt290.2.2.2.2.2.2.1 && (bt301.2.2.2.2.2.2.2.toList == bt290.2.2.2.2.2.2.2.1.toList)))))))) = true then (if bt279.2.2.2.2.2.2.2.2.1.toList = bt290.2.2.2.2.2.2.2.2.1.toList then (some (bt279.2.2.2.2.2.2.2.2.2 == bt290.2.2.2.2.2.2.2.2.2)) else (some false)) else (some false))) else (some false)))) = some r := by rw [if_neg (show ¬ (false = true) by decide)] at H; exact H
          clear H
          have H := H1
          clear H1
          replace H := Option.bind_eq_some_iff.mp H
          obtain ⟨⟨t279, t280, t281, t282, t283, t284, t285, t286, t287, t288⟩, A810, H⟩ := H
          replace H : ((weighbridgeref05_Parse.f a0).bind fun bt290 => (if true = true then ((weighbridgelaw05_ref.f t279 t280 t281 t282 t283 t284 t285 t286).bind fun bt301 => (if (bt301.1 == bt290.1 && (bt301.2.1 == bt290.2.1 && (bt301.2.2.1 == bt290.2.2.1 && (bt301.2.2.2.1 == bt290.2.2.2.1 && (bt301.2.2.2.2.1 == bt290.2.2.2.2.1 && (bt301.2.2.2.2.2.1 == bt290.2.2.2.2.2.1 && (bt301.2.2.2.2.2.2.1 == bt290.2.2.2.2.2.2.1 && (bt301.2.2.2.2.2.2.2.toList == bt290.2.2.2.2.2.2.2.1.toList)))))))) = true then (if t287.toList = bt290.2.2.2.2.2.2.2.2.1.toList then (some (t288 == bt290.2.2.2.2.2.2.2.2.2)) else (some false)) else (some false))) else (some false))) = some r := H
          have A81 := Aside0.mk A810
          clear A810
          replace H := Option.bind_eq_some_iff.mp H
          obtain ⟨⟨t290, t291, t292, t293, t294, t295, t296, t297, t298, t299⟩, A820, H⟩ := H
          replace H : (if true = true then ((weighbridgelaw05_ref.f t279 t280 t281 t282 t283 t284 t285 t286).bind fun bt301 => (if (bt301.1 == t290 && (bt301.2.1 == t291 && (bt301.2.2.1 == t292 && (bt301.2.2.2.1 == t293 && (bt301.2.2.2.2.1 == t294 && (bt301.2.2.2.2.2.1 == t295 && (bt301.2.2.2.2.2.2.1 == t296 && (bt301.2.2.2.2.2.2.2.toList == t297.toList)))))))) = true then (if t287.toList = t298.toList then (some (t288 == t299)) else (some false)) else (some false))) else (some false)) = some r := H
          have A82 := Aside0.mk A820
          clear A820
          have c83 : true = true := rfl
          · clear c83
            have H1 : ((weighbridgelaw05_ref.f t279 t280 t281 t282 t283 t284 t285 t286).bind fun bt301 => (if (bt301.1 == t290 && (bt301.2.1 == t291 && (bt301.2.2.1 == t292 && (bt301.2.2.2.1 == t293 && (bt301.2.2.2.2.1 == t294 && (bt301.2.2.2.2.2.1 == t295 && (bt301.2.2.2.2.2.2.1 == t296 && (bt301.2.2.2.2.2.2.2.toList == t297.toList)))))))) = true then (if t287.toList = t298.toList then (some (t288 == t299)) else (some false)) else (some false))) = some r := by first | (rw [if_pos rfl] at H; exact H) | (rw [if_pos trivial] at H; exact H)
            clear H
            have H := H1
            clear H1
            replace H := Option.bind_eq_some_iff.mp H
            obtain ⟨⟨t301, t302, t303, t304, t305, t306, t307, t308⟩, A840, H⟩ := H
            replace H : (if (t301 == t290 && (t302 == t291 && (t303 == t292 && (t304 == t293 && (t305 == t294 && (t306 == t295 && (t307 == t296 && (t308.toList == t297.toList)))))))) = true then (if t287.toList = t298.toList then (some (t288 == t299)) else (some false)) else (some false)) = some r := H
            have A84 := Aside0.mk A840
            clear A840
            by_cases c85 : (t301 == t290 && (t302 == t291 && (t303 == t292 && (t304 == t293 && (t305 == t294 && (t306 == t295 && (t307 == t296 && (t308.toList == t297.toList)))))))) = true
            · rw [if_pos c85] at H
              have c85b0 : (t301 == t290 && (t302 == t291 && (t303 == t292 && (t304 == t293 && (t305 == t294 && (t306 == t295 && (t307 == t296 && (t308.toList == t297.toList)))))))) = true := c85
              (try (have c85b1 : decide (t301 = t290 && (t302 == t291 && (t303 == t292 && (t304 == t293 && (t305 == t294 && (t306 == t295 && (t307 == t296 && (t308.toList == t297.toList)))))))) = true := by simpa using c85))
              (try (have c85b2 : (t301 == t290 && (t302 == t291 && (t303 == t292 && (t304 == t293 && (t305 == t294 && (t306 == t295 && (t307 == t296 && (t308.toList == t297.toList)))))))) = true := by simpa using c85))
              clear c85
              by_cases c86 : t287.toList = t298.toList
              · rw [if_pos c86] at H
                have c86b0 : (t287.toList == t298.toList) = true := beq_iff_eq.mpr c86
                have c86b1 : (t287.toList != t298.toList) = false := bne_eq_false_iff_eq.mpr c86
                clear c86
                obtain rfl := Option.some.inj H
                try go_wp2_with (first | ((with_reducible refine gate_callee (f := 20) rfl ?_); refine goesL_ (some 64) rfl rfl Try.func20 (by kernel_rfl) rfl #[.string a0] rfl (by (try simp only [List.map_toArray, List.map_cons, List.map_nil]); first | done | rfl | (simp only [List.length_drop, List.length_take]; rfl)) ?_; (with_reducible refine (tcp_Parse.calls a0 t279 t280 t281 t282 t283 t284 t285 t286 t287 t288 _ A81.out).mono ?_); rintro e w87 ⟨rfl, hb⟩; (try clear A81); refine ⟨_, rfl, ?_⟩; have n0_ := Aside0.mk (blk_below (g := gb200) (o := .cells #[.int .i64 a1_0, .int .i64 a1_1, .int .u32 a1_2, .int .u32 a1_3, .int .i64 a1_4, .int .i64 a1_5, .int .i64 a1_6, .string a1_7] 24 (0, 0)) (by (with_reducible repeat (first | refine blk_drewN ?_ _ | refine blk_drew ?_ | refine blk_alloc ?_ _)); exact BK200.out) hb); have n1_ := Aside0.mk (below_step (by repeat (first | (with_reducible first | exact HB.out | apply below_alloc | apply pw_below_drewN | apply below_drew1 | refine below_set ?_ GE200.out) | exact HB.out)) hb); clear BK200; clear HB; have BK200 := n0_; have HB := n1_; clear n0_ n1_; (try clear hb); (try clear hb2); (try clear hk); (try clear hi)) | ((with_reducible refine gate_dst (N := 17) rfl ?_); refine box_event ?hg (N := 17) ?hd (cs := #[.int .i64 0, .int .i64 0, .int .u32 0, .int .u32 0, .int .i64 0, .int .i64 0, .int .i64 0, .string (⟨#[]⟩ : ByteArray)]) (t := 24) ?hr ?_; (case hd => rfl); (case hg => rfl); (case hr => first | (go_simp; done) | (go_simp; rfl)); intro gb289 hg w88 hbox hb; have n0_ := Aside0.mk (blk_below (g := gb200) (o := .cells #[.int .i64 a1_0, .int .i64 a1_1, .int .u32 a1_2, .int .u32 a1_3, .int .i64 a1_4, .int .i64 a1_5, .int .i64 a1_6, .string a1_7] 24 (0, 0)) (by (with_reducible repeat (first | refine blk_drewN ?_ _ | refine blk_drew ?_ | refine blk_alloc ?_ _)); exact BK200.out) hb); have n1_ := Aside0.mk (below_step (by repeat (first | (with_reducible first | exact HB.out | apply below_alloc | apply pw_below_drewN | apply below_drew1 | refine below_set ?_ GE200.out) | exact HB.out)) hb); have n2_ := Aside0.mk (hbox); have n3_ := Aside0.mk ((by rw [hg]; exact (below_size (by repeat (first | (with_reducible first | exact HB.out | apply below_alloc | apply pw_below_drewN | apply below_drew1 | refine below_set ?_ GE200.out) | exact HB.out))) : w.heap.size ≤ gb289)); have n4_ := Aside0.mk ((by rw [hg]; exact (below_size (by repeat (first | (with_reducible first | exact HB.out | apply below_alloc | apply pw_below_drewN | apply below_drew1 | refine below_set ?_ GE200.out) | exact HB.out))) : w.heap.size ≤ gb289)); have n5_ := Aside0.mk ((by rw [hg]; exact Nat.ne_of_lt (blk_lt (g := gb200) (o := .cells #[.int .i64 a1_0, .int .i64 a1_1, .int .u32 a1_2, .int .u32 a1_3, .int .i64 a1_4, .int .i64 a1_5, .int .i64 a1_6, .string a1_7] 24 (0, 0)) (by (with_reducible repeat (first | refine blk_drewN ?_ _ | refine blk_drew ?_ | refine blk_alloc ?_ _)); exact BK200.out)) : gb200 ≠ gb289)); have n6_ := Aside0.mk ((by rw [hg]; exact Nat.ne_of_gt (blk_lt (g := gb200) (o := .cells #[.int .i64 a1_0, .int .i64 a1_1, .int .u32 a1_2, .int .u32 a1_3, .int .i64 a1_4, .int .i64 a1_5, .int .i64 a1_6, .string a1_7] 24 (0, 0)) (by (with_reducible repeat (first | refine blk_drewN ?_ _ | refine blk_drew ?_ | refine blk_alloc ?_ _)); exact BK200.out)) : gb289 ≠ gb200)); clear BK200; clear HB; have BK200 := n0_; have HB := n1_; have BK289 := n2_; have GW289 := n3_; have GE289 := n4_; have NB200_289 := n5_; have NB289_200 := n6_; clear n0_ n1_ n2_ n3_ n4_ n5_ n6_; clear hb hbox hg; have hnb89 := NB289_200.out; have hnc89 := NB200_289.out; have hcz90_0 : w88.cell? ⟨gb289, 0, none⟩ = some (.int .i64 0) := (blk_cell BK289.out 0).trans rfl; have hcz90_1 : w88.cell? ⟨gb289, 1, none⟩ = some (.int .i64 0) := (blk_cell BK289.out 1).trans rfl; have hcz90_2 : w88.cell? ⟨gb289, 2, none⟩ = some (.int .u32 0) := (blk_cell BK289.out 2).trans rfl; have hcz90_3 : w88.cell? ⟨gb289, 3, none⟩ = some (.int .u32 0) := (blk_cell BK289.out 3).trans rfl; have hcz90_4 : w88.cell? ⟨gb289, 4, none⟩ = some (.int .i64 0) := (blk_cell BK289.out 4).trans rfl; have hcz90_5 : w88.cell? ⟨gb289, 5, none⟩ = some (.int .i64 0) := (blk_cell BK289.out 5).trans rfl; have hcz90_6 : w88.cell? ⟨gb289, 6, none⟩ = some (.int .i64 0) := (blk_cell BK289.out 6).trans rfl; have hcz90_7 : w88.cell? ⟨gb289, 7, none⟩ = some (.string (⟨#[]⟩ : ByteArray)) := (blk_cell BK289.out 7).trans rfl; have hfz90_0 := blk_frozen BK289.out 0; have hfz90_1 := blk_frozen BK289.out 1; have hfz90_2 := blk_frozen BK289.out 2; have hfz90_3 := blk_frozen BK289.out 3; have hfz90_4 := blk_frozen BK289.out 4; have hfz90_5 := blk_frozen BK289.out 5; have hfz90_6 := blk_frozen BK289.out 6; have hfz90_7 := blk_frozen BK289.out 7) | ((with_reducible refine gate_callee (f := 21) rfl ?_); refine goesL_ (some 70) rfl rfl Try.func21 (by kernel_rfl) rfl #[.string a0] rfl (by (try simp only [List.map_toArray, List.map_cons, List.map_nil]); first | done | rfl | (simp only [List.length_drop, List.length_take]; rfl)) ?_; (with_reducible refine (weighbridgeref05_Parse.calls a0 t290 t291 t292 t293 t294 t295 t296 t297 t298 t299 _ A82.out).mono ?_); rintro e w91 ⟨rfl, hb⟩; (try clear A82); refine ⟨_, rfl, ?_⟩; have n0_ := Aside0.mk (blk_below (g := gb200) (o := .cells #[.int .i64 a1_0, .int .i64 a1_1, .int .u32 a1_2, .int .u32 a1_3, .int .i64 a1_4, .int .i64 a1_5, .int .i64 a1_6, .string a1_7] 24 (0, 0)) (by (with_reducible repeat (first | refine blk_drewN ?_ _ | refine blk_drew ?_ | refine blk_alloc ?_ _)); refine blk_far ?_ NB200_289.out _; (with_reducible repeat (first | refine blk_drewN ?_ _ | refine blk_drew ?_ | refine blk_alloc ?_ _)); refine blk_far ?_ NB200_289.out _; (with_reducible repeat (first | refine blk_drewN ?_ _ | refine blk_drew ?_ | refine blk_alloc ?_ _)); refine blk_far ?_ NB200_289.out _; (with_reducible repeat (first | refine blk_drewN ?_ _ | refine blk_drew ?_ | refine blk_alloc ?_ _)); refine blk_far ?_ NB200_289.out _; (with_reducible repeat (first | refine blk_drewN ?_ _ | refine blk_drew ?_ | refine blk_alloc ?_ _)); refine blk_far ?_ NB200_289.out _; (with_reducible repeat (first | refine blk_drewN ?_ _ | refine blk_drew ?_ | refine blk_alloc ?_ _)); refine blk_far ?_ NB200_289.out _; (with_reducible repeat (first | refine blk_drewN ?_ _ | refine blk_drew ?_ | refine blk_alloc ?_ _)); refine blk_far ?_ NB200_289.out _; (with_reducible repeat (first | refine blk_drewN ?_ _ | refine blk_drew ?_ | refine blk_alloc ?_ _)); refine blk_far ?_ NB200_289.out _; (with_reducible repeat (first | refine blk_drewN ?_ _ | refine blk_drew ?_ | refine blk_alloc ?_ _)); exact BK200.out) hb); have n1_ := Aside0.mk (blk_below (g := gb289) (o := .cells #[.int .i64 t279, .int .i64 t280, .int .u32 t281, .int .u32 t282, .int .i64 t283, .int .i64 t284, .int .i64 t285, .string t286] 24 (0, 0)) (by (with_reducible repeat (first | refine blk_drewN ?_ _ | refine blk_drew ?_ | refine blk_alloc ?_ _)); refine blk_put (cs := #[.int .i64 t279, .int .i64 t280, .int .u32 t281, .int .u32 t282, .int .i64 t283, .int .i64 t284, .int .i64 t285, .string (⟨#[]⟩ : ByteArray)]) ?_ 7 _ rfl; (with_reducible repeat (first | refine blk_drewN ?_ _ | refine blk_drew ?_ | refine blk_alloc ?_ _)); refine blk_put (cs := #[.int .i64 t279, .int .i64 t280, .int .u32 t281, .int .u32 t282, .int .i64 t283, .int .i64 t284, .int .i64 0, .string (⟨#[]⟩ : ByteArray)]) ?_ 6 _ rfl; (with_reducible repeat (first | refine blk_drewN ?_ _ | refine blk_drew ?_ | refine blk_alloc ?_ _)); refine blk_put (cs := #[.int .i64 t279, .int .i64 t280, .int .u32 t281, .int .u32 t282, .int .i64 t283, .int .i64 0, .int .i64 0, .string (⟨#[]⟩ : ByteArray)]) ?_ 5 _ rfl; (with_reducible repeat (first | refine blk_drewN ?_ _ | refine blk_drew ?_ | refine blk_alloc ?_ _)); refine blk_put (cs := #[.int .i64 t279, .int .i64 t280, .int .u32 t281, .int .u32 t282, .int .i64 0, .int .i64 0, .int .i64 0, .string (⟨#[]⟩ : ByteArray)]) ?_ 4 _ rfl; (with_reducible repeat (first | refine blk_drewN ?_ _ | refine blk_drew ?_ | refine blk_alloc ?_ _)); refine blk_put (cs := #[.int .i64 t279, .int .i64 t280, .int .u32 t281, .int .u32 0, .int .i64 0, .int .i64 0, .int .i64 0, .string (⟨#[]⟩ : ByteArray)]) ?_ 3 _ rfl; (with_reducible repeat (first | refine blk_drewN ?_ _ | refine blk_drew ?_ | refine blk_alloc ?_ _)); refine blk_put (cs := #[.int .i64 t279, .int .i64 t280, .int .u32 0, .int .u32 0, .int .i64 0, .int .i64 0, .int .i64 0, .string (⟨#[]⟩ : ByteArray)]) ?_ 2 _ rfl; (with_reducible repeat (first | refine blk_drewN ?_ _ | refine blk_drew ?_ | refine blk_alloc ?_ _)); refine blk_put (cs := #[.int .i64 t279, .int .i64 0, .int .u32 0, .int .u32 0, .int .i64 0, .int .i64 0, .int .i64 0, .string (⟨#[]⟩ : ByteArray)]) ?_ 1 _ rfl; (with_reducible repeat (first | refine blk_drewN ?_ _ | refine blk_drew ?_ | refine blk_alloc ?_ _)); refine blk_put (cs := #[.int .i64 0, .int .i64 0, .int .u32 0, .int .u32 0, .int .i64 0, .int .i64 0, .int .i64 0, .string (⟨#[]⟩ : ByteArray)]) ?_ 0 _ rfl; (with_reducible repeat (first | refine blk_drewN ?_ _ | refine blk_drew ?_ | refine blk_alloc ?_ _)); exact BK289.out) hb); have n2_ := Aside0.mk (below_step (by repeat (first | (with_reducible first | exact HB.out | apply below_alloc | apply pw_below_drewN | apply below_drew1 | refine below_set ?_ GE200.out | refine below_set ?_ GE289.out) | exact HB.out)) hb); clear BK200; clear BK289; clear HB; have BK200 := n0_; have BK289 := n1_; have HB := n2_; clear n0_ n1_ n2_; (try clear hb); (try clear hb2); (try clear hk); (try clear hi)) | ((with_reducible refine gate_dst (N := 20) rfl ?_); refine box_event ?hg (N := 20) ?hd (cs := #[.int .i64 0, .int .i64 0, .int .u32 0, .int .u32 0, .int .i64 0, .int .i64 0, .int .i64 0, .string (⟨#[]⟩ : ByteArray)]) (t := 31) ?hr ?_; (case hd => rfl); (case hg => rfl); (case hr => first | (go_simp; done) | (go_simp; rfl)); intro gb300 hg w92 hbox hb; have n0_ := Aside0.mk (blk_below (g := gb200) (o := .cells #[.int .i64 a1_0, .int .i64 a1_1, .int .u32 a1_2, .int .u32 a1_3, .int .i64 a1_4, .int .i64 a1_5, .int .i64 a1_6, .string a1_7] 24 (0, 0)) (by (with_reducible repeat (first | refine blk_drewN ?_ _ | refine blk_drew ?_ | refine blk_alloc ?_ _)); exact BK200.out) hb); have n1_ := Aside0.mk (blk_below (g := gb289) (o := .cells #[.int .i64 t279, .int .i64 t280, .int .u32 t281, .int .u32 t282, .int .i64 t283, .int .i64 t284, .int .i64 t285, .string t286] 24 (0, 0)) (by (with_reducible repeat (first | refine blk_drewN ?_ _ | refine blk_drew ?_ | refine blk_alloc ?_ _)); exact BK289.out) hb); have n2_ := Aside0.mk (below_step (by repeat (first | (with_reducible first | exact HB.out | apply below_alloc | apply pw_below_drewN | apply below_drew1 | refine below_set ?_ GE200.out | refine below_set ?_ GE289.out) | exact HB.out)) hb); have n3_ := Aside0.mk (hbox); have n4_ := Aside0.mk ((by rw [hg]; exact (below_size (by repeat (first | (with_reducible first | exact HB.out | apply below_alloc | apply pw_below_drewN | apply below_drew1 | refine below_set ?_ GE200.out | refine below_set ?_ GE289.out) | exact HB.out))) : w.heap.size ≤ gb300)); have n5_ := Aside0.mk ((by rw [hg]; exact (below_size (by repeat (first | (with_reducible first | exact HB.out | apply below_alloc | apply pw_below_drewN | apply below_drew1 | refine below_set ?_ GE200.out | refine below_set ?_ GE289.out) | exact HB.out))) : w.heap.size ≤ gb300)); have n6_ := Aside0.mk ((by rw [hg]; exact Nat.ne_of_lt (blk_lt (g := gb200) (o := .cells #[.int .i64 a1_0, .int .i64 a1_1, .int .u32 a1_2, .int .u32 a1_3, .int .i64 a1_4, .int .i64 a1_5, .int .i64 a1_6, .string a1_7] 24 (0, 0)) (by (with_reducible repeat (first | refine blk_drewN ?_ _ | refine blk_drew ?_ | refine blk_alloc ?_ _)); exact BK200.out)) : gb200 ≠ gb300)); have n7_ := Aside0.mk ((by rw [hg]; exact Nat.ne_of_gt (blk_lt (g := gb200) (o := .cells #[.int .i64 a1_0, .int .i64 a1_1, .int .u32 a1_2, .int .u32 a1_3, .int .i64 a1_4, .int .i64 a1_5, .int .i64 a1_6, .string a1_7] 24 (0, 0)) (by (with_reducible repeat (first | refine blk_drewN ?_ _ | refine blk_drew ?_ | refine blk_alloc ?_ _)); exact BK200.out)) : gb300 ≠ gb200)); have n8_ := Aside0.mk ((by rw [hg]; exact Nat.ne_of_lt (blk_lt (g := gb289) (o := .cells #[.int .i64 t279, .int .i64 t280, .int .u32 t281, .int .u32 t282, .int .i64 t283, .int .i64 t284, .int .i64 t285, .string t286] 24 (0, 0)) (by (with_reducible repeat (first | refine blk_drewN ?_ _ | refine blk_drew ?_ | refine blk_alloc ?_ _)); exact BK289.out)) : gb289 ≠ gb300)); have n9_ := Aside0.mk ((by rw [hg]; exact Nat.ne_of_gt (blk_lt (g := gb289) (o := .cells #[.int .i64 t279, .int .i64 t280, .int .u32 t281, .int .u32 t282, .int .i64 t283, .int .i64 t284, .int .i64 t285, .string t286] 24 (0, 0)) (by (with_reducible repeat (first | refine blk_drewN ?_ _ | refine blk_drew ?_ | refine blk_alloc ?_ _)); exact BK289.out)) : gb300 ≠ gb289)); clear BK200; clear BK289; clear HB; have BK200 := n0_; have BK289 := n1_; have HB := n2_; have BK300 := n3_; have GW300 := n4_; have GE300 := n5_; have NB200_300 := n6_; have NB300_200 := n7_; have NB289_300 := n8_; have NB300_289 := n9_; clear n0_ n1_ n2_ n3_ n4_ n5_ n6_ n7_ n8_ n9_; clear hb hbox hg; have hnb93 := NB300_200.out; have hnc93 := NB200_300.out; have hnb94 := NB300_289.out; have hnc94 := NB289_300.out; have hcz95_0 : w92.cell? ⟨gb300, 0, none⟩ = some (.int .i64 0) := (blk_cell BK300.out 0).trans rfl; have hcz95_1 : w92.cell? ⟨gb300, 1, none⟩ = some (.int .i64 0) := (blk_cell BK300.out 1).trans rfl; have hcz95_2 : w92.cell? ⟨gb300, 2, none⟩ = some (.int .u32 0) := (blk_cell BK300.out 2).trans rfl; have hcz95_3 : w92.cell? ⟨gb300, 3, none⟩ = some (.int .u32 0) := (blk_cell BK300.out 3).trans rfl; have hcz95_4 : w92.cell? ⟨gb300, 4, none⟩ = some (.int .i64 0) := (blk_cell BK300.out 4).trans rfl; have hcz95_5 : w92.cell? ⟨gb300, 5, none⟩ = some (.int .i64 0) := (blk_cell BK300.out 5).trans rfl; have hcz95_6 : w92.cell? ⟨gb300, 6, none⟩ = some (.int .i64 0) := (blk_cell BK300.out 6).trans rfl; have hcz95_7 : w92.cell? ⟨gb300, 7, none⟩ = some (.string (⟨#[]⟩ : ByteArray)) := (blk_cell BK300.out 7).trans rfl; have hfz95_0 := blk_frozen BK300.out 0; have hfz95_1 := blk_frozen BK300.out 1; have hfz95_2 := blk_frozen BK300.out 2; have hfz95_3 := blk_frozen BK300.out 3; have hfz95_4 := blk_frozen BK300.out 4; have hfz95_5 := blk_frozen BK300.out 5; have hfz95_6 := blk_frozen BK300.out 6; have hfz95_7 := blk_frozen BK300.out 7))
                have n0_ : Aside0 (((((((((w92.setCell ⟨gb300, 0, none⟩ (.int .i64 t290)).setCell ⟨gb300, 1, none⟩ (.int .i64 t291)).setCell ⟨gb300, 2, none⟩ (.int .u32 t292)).setCell ⟨gb300, 3, none⟩ (.int .u32 t293)).setCell ⟨gb300, 4, none⟩ (.int .i64 t294)).setCell ⟨gb300, 5, none⟩ (.int .i64 t295)).setCell ⟨gb300, 6, none⟩ (.int .i64 t296)).setCell ⟨gb300, 7, none⟩ (.string t297)).heap[gb200]? = some (.cells #[.int .i64 a1_0, .int .i64 a1_1, .int .u32 a1_2, .int .u32 a1_3, .int .i64 a1_4, .int .i64 a1_5, .int .i64 a1_6, .string a1_7] 24 (0, 0))) := ⟨by (with_reducible repeat (first | refine blk_drewN ?_ _ | refine blk_drew ?_ | refine blk_alloc ?_ _)); refine blk_far ?_ NB200_300.out _; (with_reducible repeat (first | refine blk_drewN ?_ _ | refine blk_drew ?_ | refine blk_alloc ?_ _)); refine blk_far ?_ NB200_300.out _; (with_reducible repeat (first | refine blk_drewN ?_ _ | refine blk_drew ?_ | refine blk_alloc ?_ _)); refine blk_far ?_ NB200_300.out _; (with_reducible repeat (first | refine blk_drewN ?_ _ | refine blk_drew ?_ | refine blk_alloc ?_ _)); refine blk_far ?_ NB200_300.out _; (with_reducible repeat (first | refine blk_drewN ?_ _ | refine blk_drew ?_ | refine blk_alloc ?_ _)); refine blk_far ?_ NB200_300.out _; (with_reducible repeat (first | refine blk_drewN ?_ _ | refine blk_drew ?_ | refine blk_alloc ?_ _)); refine blk_far ?_ NB200_300.out _; (with_reducible repeat (first | refine blk_drewN ?_ _ | refine blk_drew ?_ | refine blk_alloc ?_ _)); refine blk_far ?_ NB200_300.out _; (with_reducible repeat (first | refine blk_drewN ?_ _ | refine blk_drew ?_ | refine blk_alloc ?_ _)); refine blk_far ?_ NB200_300.out _; (with_reducible repeat (first | refine blk_drewN ?_ _ | refine blk_drew ?_ | refine blk_alloc ?_ _)); exact BK200.out⟩
                have n1_ : Aside0 (((((((((w92.setCell ⟨gb300, 0, none⟩ (.int .i64 t290)).setCell ⟨gb300, 1, none⟩ (.int .i64 t291)).setCell ⟨gb300, 2, none⟩ (.int .u32 t292)).setCell ⟨gb300, 3, none⟩ (.int .u32 t293)).setCell ⟨gb300, 4, none⟩ (.int .i64 t294)).setCell ⟨gb300, 5, none⟩ (.int .i64 t295)).setCell ⟨gb300, 6, none⟩ (.int .i64 t296)).setCell ⟨gb300, 7, none⟩ (.string t297)).heap[gb289]? = some (.cells #[.int .i64 t279, .int .i64 t280, .int .u32 t281, .int .u32 t282, .int .i64 t283, .int .i64 t284, .int .i64 t285, .string t286] 24 (0, 0))) := ⟨by (with_reducible repeat (first | refine blk_drewN ?_ _ | refine blk_drew ?_ | refine blk_alloc ?_ _)); refine blk_far ?_ NB289_300.out _; (with_reducible repeat (first | refine blk_drewN ?_ _ | refine blk_drew ?_ | refine blk_alloc ?_ _)); refine blk_far ?_ NB289_300.out _; (with_reducible repeat (first | refine blk_drewN ?_ _ | refine blk_drew ?_ | refine blk_alloc ?_ _)); refine blk_far ?_ NB289_300.out _; (with_reducible repeat (first | refine blk_drewN ?_ _ | refine blk_drew ?_ | refine blk_alloc ?_ _)); refine blk_far ?_ NB289_300.out _; (with_reducible repeat (first | refine blk_drewN ?_ _ | refine blk_drew ?_ | refine blk_alloc ?_ _)); refine blk_far ?_ NB289_300.out _; (with_reducible repeat (first | refine blk_drewN ?_ _ | refine blk_drew ?_ | refine blk_alloc ?_ _)); refine blk_far ?_ NB289_300.out _; (with_reducible repeat (first | refine blk_drewN ?_ _ | refine blk_drew ?_ | refine blk_alloc ?_ _)); refine blk_far ?_ NB289_300.out _; (with_reducible repeat (first | refine blk_drewN ?_ _ | refine blk_drew ?_ | refine blk_alloc ?_ _)); refine blk_far ?_ NB289_300.out _; (with_reducible repeat (first | refine blk_drewN ?_ _ | refine blk_drew ?_ | refine blk_alloc ?_ _)); exact BK289.out⟩
                have n2_ : Aside0 (((((((((w92.setCell ⟨gb300, 0, none⟩ (.int .i64 t290)).setCell ⟨gb300, 1, none⟩ (.int .i64 t291)).setCell ⟨gb300, 2, none⟩ (.int .u32 t292)).setCell ⟨gb300, 3, none⟩ (.int .u32 t293)).setCell ⟨gb300, 4, none⟩ (.int .i64 t294)).setCell ⟨gb300, 5, none⟩ (.int .i64 t295)).setCell ⟨gb300, 6, none⟩ (.int .i64 t296)).setCell ⟨gb300, 7, none⟩ (.string t297)).heap[gb300]? = some (.cells #[.int .i64 t290, .int .i64 t291, .int .u32 t292, .int .u32 t293, .int .i64 t294, .int .i64 t295, .int .i64 t296, .string t297] 31 (0, 0))) := ⟨by (with_reducible repeat (first | refine blk_drewN ?_ _ | refine blk_drew ?_ | refine blk_alloc ?_ _)); refine blk_put (cs := #[.int .i64 t290, .int .i64 t291, .int .u32 t292, .int .u32 t293, .int .i64 t294, .int .i64 t295, .int .i64 t296, .string (⟨#[]⟩ : ByteArray)]) ?_ 7 _ rfl; (with_reducible repeat (first | refine blk_drewN ?_ _ | refine blk_drew ?_ | refine blk_alloc ?_ _)); refine blk_put (cs := #[.int .i64 t290, .int .i64 t291, .int .u32 t292, .int .u32 t293, .int .i64 t294, .int .i64 t295, .int .i64 0, .string (⟨#[]⟩ : ByteArray)]) ?_ 6 _ rfl; (with_reducible repeat (first | refine blk_drewN ?_ _ | refine blk_drew ?_ | refine blk_alloc ?_ _)); refine blk_put (cs := #[.int .i64 t290, .int .i64 t291, .int .u32 t292, .int .u32 t293, .int .i64 t294, .int .i64 0, .int .i64 0, .string (⟨#[]⟩ : ByteArray)]) ?_ 5 _ rfl; (with_reducible repeat (first | refine blk_drewN ?_ _ | refine blk_drew ?_ | refine blk_alloc ?_ _)); refine blk_put (cs := #[.int .i64 t290, .int .i64 t291, .int .u32 t292, .int .u32 t293, .int .i64 0, .int .i64 0, .int .i64 0, .string (⟨#[]⟩ : ByteArray)]) ?_ 4 _ rfl; (with_reducible repeat (first | refine blk_drewN ?_ _ | refine blk_drew ?_ | refine blk_alloc ?_ _)); refine blk_put (cs := #[.int .i64 t290, .int .i64 t291, .int .u32 t292, .int .u32 0, .int .i64 0, .int .i64 0, .int .i64 0, .string (⟨#[]⟩ : ByteArray)]) ?_ 3 _ rfl; (with_reducible repeat (first | refine blk_drewN ?_ _ | refine blk_drew ?_ | refine blk_alloc ?_ _)); refine blk_put (cs := #[.int .i64 t290, .int .i64 t291, .int .u32 0, .int .u32 0, .int .i64 0, .int .i64 0, .int .i64 0, .string (⟨#[]⟩ : ByteArray)]) ?_ 2 _ rfl; (with_reducible repeat (first | refine blk_drewN ?_ _ | refine blk_drew ?_ | refine blk_alloc ?_ _)); refine blk_put (cs := #[.int .i64 t290, .int .i64 0, .int .u32 0, .int .u32 0, .int .i64 0, .int .i64 0, .int .i64 0, .string (⟨#[]⟩ : ByteArray)]) ?_ 1 _ rfl; (with_reducible repeat (first | refine blk_drewN ?_ _ | refine blk_drew ?_ | refine blk_alloc ?_ _)); refine blk_put (cs := #[.int .i64 0, .int .i64 0, .int .u32 0, .int .u32 0, .int .i64 0, .int .i64 0, .int .i64 0, .string (⟨#[]⟩ : ByteArray)]) ?_ 0 _ rfl; (with_reducible repeat (first | refine blk_drewN ?_ _ | refine blk_drew ?_ | refine blk_alloc ?_ _)); exact BK300.out⟩
                have n3_ : Aside0 (Below w.heap.size w ((((((((w92.setCell ⟨gb300, 0, none⟩ (.int .i64 t290)).setCell ⟨gb300, 1, none⟩ (.int .i64 t291)).setCell ⟨gb300, 2, none⟩ (.int .u32 t292)).setCell ⟨gb300, 3, none⟩ (.int .u32 t293)).setCell ⟨gb300, 4, none⟩ (.int .i64 t294)).setCell ⟨gb300, 5, none⟩ (.int .i64 t295)).setCell ⟨gb300, 6, none⟩ (.int .i64 t296)).setCell ⟨gb300, 7, none⟩ (.string t297))) := ⟨by repeat (first | (with_reducible first | exact HB.out | apply below_alloc | apply pw_below_drewN | apply below_drew1 | refine below_set ?_ GE200.out | refine below_set ?_ GE289.out | refine below_set ?_ GE300.out) | exact HB.out)⟩
                (try clear BK200)
                (try clear BK289)
                (try clear BK300)
                (try clear HB)
                generalize ((((((((w92.setCell ⟨gb300, 0, none⟩ (.int .i64 t290)).setCell ⟨gb300, 1, none⟩ (.int .i64 t291)).setCell ⟨gb300, 2, none⟩ (.int .u32 t292)).setCell ⟨gb300, 3, none⟩ (.int .u32 t293)).setCell ⟨gb300, 4, none⟩ (.int .i64 t294)).setCell ⟨gb300, 5, none⟩ (.int .i64 t295)).setCell ⟨gb300, 6, none⟩ (.int .i64 t296)).setCell ⟨gb300, 7, none⟩ (.string t297)) = w96 at n0_ n1_ n2_ n3_ ⊢
                have BK200 := n0_
                have BK289 := n1_
                have BK300 := n2_
                have HB := n3_
                clear n0_ n1_ n2_ n3_
                have n0_ := Aside0.mk (blk_drew BK200.out)
                have n1_ := Aside0.mk (blk_drew BK289.out)
                have n2_ := Aside0.mk (blk_drew BK300.out)
                have n3_ := Aside0.mk (below_drew1 HB.out)
                clear BK200
                clear BK289
                clear BK300
                clear HB
                have BK200 := n0_
                have BK289 := n1_
                have BK300 := n2_
                have HB := n3_
                clear n0_ n1_ n2_ n3_
                refine start_ (n := 18) (S := fun w' => w'.cell? ⟨gb289, 0, none⟩ = some (.int .i64 t279) ∧ w'.cell? ⟨gb289, 1, none⟩ = some (.int .i64 t280) ∧ w'.cell? ⟨gb289, 2, none⟩ = some (.int .u32 t281) ∧ w'.cell? ⟨gb289, 3, none⟩ = some (.int .u32 t282) ∧ w'.cell? ⟨gb289, 4, none⟩ = some (.int .i64 t283) ∧ w'.cell? ⟨gb289, 5, none⟩ = some (.int .i64 t284) ∧ w'.cell? ⟨gb289, 6, none⟩ = some (.int .i64 t285) ∧ w'.cell? ⟨gb289, 7, none⟩ = some (.string t286) ∧ w'.cell? ⟨gb300, 0, none⟩ = some (.int .i64 t290) ∧ w'.cell? ⟨gb300, 1, none⟩ = some (.int .i64 t291) ∧ w'.cell? ⟨gb300, 2, none⟩ = some (.int .u32 t292) ∧ w'.cell? ⟨gb300, 3, none⟩ = some (.int .u32 t293) ∧ w'.cell? ⟨gb300, 4, none⟩ = some (.int .i64 t294) ∧ w'.cell? ⟨gb300, 5, none⟩ = some (.int .i64 t295) ∧ w'.cell? ⟨gb300, 6, none⟩ = some (.int .i64 t296) ∧ w'.cell? ⟨gb300, 7, none⟩ = some (.string t297)) (ds := []) #[false, false, false, false, false, false, false, false, false, false, false, false, false, false, false, false, false, false] (by kernel_rfl) rfl rfl ⟨(blk_cell BK289.out 0).trans rfl, (blk_cell BK289.out 1).trans rfl, (blk_cell BK289.out 2).trans rfl, (blk_cell BK289.out 3).trans rfl, (blk_cell BK289.out 4).trans rfl, (blk_cell BK289.out 5).trans rfl, (blk_cell BK289.out 6).trans rfl, (blk_cell BK289.out 7).trans rfl, (blk_cell BK300.out 0).trans rfl, (blk_cell BK300.out 1).trans rfl, (blk_cell BK300.out 2).trans rfl, (blk_cell BK300.out 3).trans rfl, (blk_cell BK300.out 4).trans rfl, (blk_cell BK300.out 5).trans rfl, (blk_cell BK300.out 6).trans rfl, (blk_cell BK300.out 7).trans rfl⟩ (fun hHeld => ?_); refine with_tabW weighbridgelaw05_TcpParses.tab13 weighbridgelaw05_TcpParses.bits13 (fun HT_ HW_ => ?_)
                generalize w96.drew = w97 at BK200 BK289 BK300 HB hHeld ⊢
                refine pure_ (i := 0) (N := some 74) (v := ?_) (a' := ?_) #[true, false, false, false, false, false, false, false, false, false, false, false, false, false, false, false, false, false] rfl rfl (any_of HT_.out (by kernel_rfl)) (fun _ _ _ h => h) (Or.inl ⟨by rfl, ?_⟩) ?_ ?_
                rotate_left
                · intro w'
                  go_simp
                  with_reducible rfl
                rotate_left
                · simp only [Act.put, List.setIfInBounds_toArray, List.set_cons_zero, List.set_cons_succ, i64_w, i32_w]
                  rfl
                refine pure_ (i := 1) (N := some 75) (v := ?_) (a' := ?_) #[true, true, false, false, false, false, false, false, false, false, false, false, false, false, false, false, false, false] rfl rfl (any_of HT_.out (by kernel_rfl)) (fun _ _ _ h => h) (Or.inl ⟨by rfl, ?_⟩) ?_ ?_
                rotate_left
                · intro w'
                  go_simp
                  with_reducible rfl
                rotate_left
                · simp only [Act.put, List.setIfInBounds_toArray, List.set_cons_zero, List.set_cons_succ, i64_w, i32_w]
                  rfl
                refine take_ (i := 2) (N := some 76) (v := ?_) (a' := ?_) #[true, true, true, false, false, false, false, false, false, false, false, false, false, false, false, false, false, false] rfl rfl (take_ofW HT_.out HW_.out (by kernel_rfl)) (fun _ _ _ h => h) (Or.inl ⟨by rfl, ?_⟩) hHeld ?_ ?_
                rotate_left
                · rintro w' ⟨s0, s1, s2, s3, s4, s5, s6, s7, s8, s9, s10, s11, s12, s13, s14, s15⟩
                  go_simp
                  with_reducible rfl
                rotate_left
                · simp only [Act.put, List.setIfInBounds_toArray, List.set_cons_zero, List.set_cons_succ, i64_w, i32_w]
                  rfl
                refine take_ (i := 4) (N := some 78) (v := ?_) (a' := ?_) #[true, true, true, false, true, false, false, false, false, false, false, false, false, false, false, false, false, false] rfl rfl (take_ofW HT_.out HW_.out (by kernel_rfl)) (fun _ _ _ h => h) (Or.inl ⟨by rfl, ?_⟩) hHeld ?_ ?_
                rotate_left
                · rintro w' ⟨s0, s1, s2, s3, s4, s5, s6, s7, s8, s9, s10, s11, s12, s13, s14, s15⟩
                  go_simp
                  with_reducible rfl
                rotate_left
                · simp only [Act.put, List.setIfInBounds_toArray, List.set_cons_zero, List.set_cons_succ, i64_w, i32_w]
                  rfl
                refine one_ (i := 3) (N := some 77) #[true, true, true, true, true, false, false, false, false, false, false, false, false, false, false, false, false, false] rfl rfl (one_of HT_.out (by kernel_rfl)) (by decide) (fun K hK => ?_)
                refine goes_ Try.func13 (by kernel_rfl) rfl #[.agg #[.int .i64 t279, .int .i64 t280, .int .u32 t281, .int .u32 t282, .int .i64 t283, .int .i64 t284, .int .i64 t285, .string t286]] (by rfl) rfl rfl (by (try simp only [List.map_toArray, List.map_cons, List.map_nil]); first | done | rfl | (simp only [List.length_drop, List.length_take]; rfl)) ?_
                with_reducible refine (weighbridgelaw05_ref.calls t279 t280 t281 t282 t283 t284 t285 t286 t301 t302 t303 t304 t305 t306 t307 t308 _ A84.out).mono ?_
                rintro e w98 ⟨rfl, hb⟩
                refine ⟨_, rfl, ?_⟩
                have n0_ := Aside0.mk (blk_below (g := gb200) (o := .cells #[.int .i64 a1_0, .int .i64 a1_1, .int .u32 a1_2, .int .u32 a1_3, .int .i64 a1_4, .int .i64 a1_5, .int .i64 a1_6, .string a1_7] 24 (0, 0)) (by (with_reducible repeat (first | refine blk_drewN ?_ _ | refine blk_drew ?_ | refine blk_alloc ?_ _)); exact BK200.out) hb)
                have n1_ := Aside0.mk (blk_below (g := gb289) (o := .cells #[.int .i64 t279, .int .i64 t280, .int .u32 t281, .int .u32 t282, .int .i64 t283, .int .i64 t284, .int .i64 t285, .string t286] 24 (0, 0)) (by (with_reducible repeat (first | refine blk_drewN ?_ _ | refine blk_drew ?_ | refine blk_alloc ?_ _)); exact BK289.out) hb)
                have n2_ := Aside0.mk (blk_below (g := gb300) (o := .cells #[.int .i64 t290, .int .i64 t291, .int .u32 t292, .int .u32 t293, .int .i64 t294, .int .i64 t295, .int .i64 t296, .string t297] 31 (0, 0)) (by (with_reducible repeat (first | refine blk_drewN ?_ _ | refine blk_drew ?_ | refine blk_alloc ?_ _)); exact BK300.out) hb)
                have n3_ := Aside0.mk (below_step (by repeat (first | (with_reducible first | exact HB.out | apply below_alloc | apply pw_below_drewN | apply below_drew1 | refine below_set ?_ GE200.out | refine below_set ?_ GE289.out | refine below_set ?_ GE300.out) | exact HB.out)) hb)
                clear BK200
                clear BK289
                clear BK300
                clear HB
                have BK200 := n0_
                have BK289 := n1_
                have BK300 := n2_
                have HB := n3_
                clear n0_ n1_ n2_ n3_
                (try clear hb)
                (try clear hb2)
                (try clear hk)
                (try clear hi)
                refine hK.out _ _ ⟨(blk_cell BK289.out 0).trans rfl, (blk_cell BK289.out 1).trans rfl, (blk_cell BK289.out 2).trans rfl, (blk_cell BK289.out 3).trans rfl, (blk_cell BK289.out 4).trans rfl, (blk_cell BK289.out 5).trans rfl, (blk_cell BK289.out 6).trans rfl, (blk_cell BK289.out 7).trans rfl, (blk_cell BK300.out 0).trans rfl, (blk_cell BK300.out 1).trans rfl, (blk_cell BK300.out 2).trans rfl, (blk_cell BK300.out 3).trans rfl, (blk_cell BK300.out 4).trans rfl, (blk_cell BK300.out 5).trans rfl, (blk_cell BK300.out 6).trans rfl, (blk_cell BK300.out 7).trans rfl⟩ (fun hHeld => ?_)
                clear hK K
                refine norm_ (a' := ?_) ?_ ?_
                rotate_left
                · show Act.put _ (some 77) _ = _
                  simp only [Act.put, List.setIfInBounds_toArray, List.set_cons_zero, List.set_cons_succ, i64_w, i32_w]
                  rfl
                refine pure_ (i := 5) (N := some 79) (v := ?_) (a' := ?_) #[true, true, true, true, true, true, false, false, false, false, false, false, false, false, false, false, false, false] rfl rfl (any_of HT_.out (by kernel_rfl)) (fun _ _ _ h => h) (Or.inl ⟨by rfl, ?_⟩) ?_ ?_
                rotate_left
                · intro w'
                  go_simp
                  with_reducible rfl
                rotate_left
                · simp only [Act.put, List.setIfInBounds_toArray, List.set_cons_zero, List.set_cons_succ, i64_w, i32_w]
                  rfl
                refine pure_ (i := 6) (N := some 80) (v := ?_) (a' := ?_) #[true, true, true, true, true, true, true, false, false, false, false, false, false, false, false, false, false, false] rfl rfl (any_of HT_.out (by kernel_rfl)) (fun _ _ _ h => h) (Or.inl ⟨by rfl, ?_⟩) ?_ ?_
                rotate_left
                · intro w'
                  go_simp
                  with_reducible rfl
                rotate_left
                · simp only [Act.put, List.setIfInBounds_toArray, List.set_cons_zero, List.set_cons_succ, i64_w, i32_w]
                  rfl
                refine pure_ (i := 7) (N := some 81) (v := ?_) (a' := ?_) #[true, true, true, true, true, true, true, true, false, false, false, false, false, false, false, false, false, false] rfl rfl (any_of HT_.out (by kernel_rfl)) (fun _ _ _ h => h) (Or.inl ⟨by rfl, ?_⟩) ?_ ?_
                rotate_left
                · intro w'
                  go_simp
                  with_reducible rfl
                rotate_left
                · simp only [Act.put, List.setIfInBounds_toArray, List.set_cons_zero, List.set_cons_succ, i64_w, i32_w]
                  rfl
                refine pure_ (i := 8) (N := some 82) (v := ?_) (a' := ?_) #[true, true, true, true, true, true, true, true, true, false, false, false, false, false, false, false, false, false] rfl rfl (any_of HT_.out (by kernel_rfl)) (fun _ _ _ h => h) (Or.inl ⟨by rfl, ?_⟩) ?_ ?_
                rotate_left
                · intro w'
                  go_simp
                  with_reducible rfl
                rotate_left
                · simp only [Act.put, List.setIfInBounds_toArray, List.set_cons_zero, List.set_cons_succ, i64_w, i32_w]
                  rfl
                refine pure_ (i := 9) (N := some 83) (v := ?_) (a' := ?_) #[true, true, true, true, true, true, true, true, true, true, false, false, false, false, false, false, false, false] rfl rfl (any_of HT_.out (by kernel_rfl)) (fun _ _ _ h => h) (Or.inl ⟨by rfl, ?_⟩) ?_ ?_
                rotate_left
                · intro w'
                  go_simp
                  with_reducible rfl
                rotate_left
                · simp only [Act.put, List.setIfInBounds_toArray, List.set_cons_zero, List.set_cons_succ, i64_w, i32_w]
                  rfl
                refine pure_ (i := 10) (N := some 84) (v := ?_) (a' := ?_) #[true, true, true, true, true, true, true, true, true, true, true, false, false, false, false, false, false, false] rfl rfl (any_of HT_.out (by kernel_rfl)) (fun _ _ _ h => h) (Or.inl ⟨by rfl, ?_⟩) ?_ ?_
                rotate_left
                · intro w'
                  go_simp
                  with_reducible rfl
                rotate_left
                · simp only [Act.put, List.setIfInBounds_toArray, List.set_cons_zero, List.set_cons_succ, i64_w, i32_w]
                  rfl
                refine pure_ (i := 11) (N := some 85) (v := ?_) (a' := ?_) #[true, true, true, true, true, true, true, true, true, true, true, true, false, false, false, false, false, false] rfl rfl (any_of HT_.out (by kernel_rfl)) (fun _ _ _ h => h) (Or.inl ⟨by rfl, ?_⟩) ?_ ?_
                rotate_left
                · intro w'
                  go_simp
                  with_reducible rfl
                rotate_left
                · simp only [Act.put, List.setIfInBounds_toArray, List.set_cons_zero, List.set_cons_succ, i64_w, i32_w]
                  rfl
                refine pure_ (i := 12) (N := some 86) (v := ?_) (a' := ?_) #[true, true, true, true, true, true, true, true, true, true, true, true, true, false, false, false, false, false] rfl rfl (any_of HT_.out (by kernel_rfl)) (fun _ _ _ h => h) (Or.inl ⟨by rfl, ?_⟩) ?_ ?_
                rotate_left
                · intro w'
                  go_simp
                  with_reducible rfl
                rotate_left
                · simp only [Act.put, List.setIfInBounds_toArray, List.set_cons_zero, List.set_cons_succ, i64_w, i32_w]
                  rfl
                refine pure_ (i := 13) (N := some 87) (v := ?_) (a' := ?_) #[true, true, true, true, true, true, true, true, true, true, true, true, true, true, false, false, false, false] rfl rfl (any_of HT_.out (by kernel_rfl)) (fun _ _ _ h => h) (Or.inl ⟨by rfl, ?_⟩) ?_ ?_
                rotate_left
                · intro w'
                  go_simp
                  with_reducible rfl
                rotate_left
                · simp only [Act.put, List.setIfInBounds_toArray, List.set_cons_zero, List.set_cons_succ, i64_w, i32_w]
                  rfl
                refine pure_ (i := 14) (N := some 88) (v := ?_) (a' := ?_) #[true, true, true, true, true, true, true, true, true, true, true, true, true, true, true, false, false, false] rfl rfl (any_of HT_.out (by kernel_rfl)) (fun _ _ _ h => h) (Or.inl ⟨by rfl, ?_⟩) ?_ ?_
                rotate_left
                · intro w'
                  go_simp
                  with_reducible rfl
                rotate_left
                · simp only [Act.put, List.setIfInBounds_toArray, List.set_cons_zero, List.set_cons_succ, i64_w, i32_w]
                  rfl
                refine pure_ (i := 15) (N := some 89) (v := ?_) (a' := ?_) #[true, true, true, true, true, true, true, true, true, true, true, true, true, true, true, true, false, false] rfl rfl (any_of HT_.out (by kernel_rfl)) (fun _ _ _ h => h) (Or.inl ⟨by rfl, ?_⟩) ?_ ?_
                rotate_left
                · intro w'
                  go_simp
                  with_reducible rfl
                rotate_left
                · simp only [Act.put, List.setIfInBounds_toArray, List.set_cons_zero, List.set_cons_succ, i64_w, i32_w]
                  rfl
                refine pure_ (i := 16) (N := some 90) (v := ?_) (a' := ?_) #[true, true, true, true, true, true, true, true, true, true, true, true, true, true, true, true, true, false] rfl rfl (any_of HT_.out (by kernel_rfl)) (fun _ _ _ h => h) (Or.inl ⟨by rfl, ?_⟩) ?_ ?_
                rotate_left
                · intro w'
                  go_simp
                  with_reducible rfl
                rotate_left
                · simp only [Act.put, List.setIfInBounds_toArray, List.set_cons_zero, List.set_cons_succ, i64_w, i32_w]
                  rfl
                refine pure_ (i := 17) (N := some 12) (v := ?_) (a' := ?_) #[true, true, true, true, true, true, true, true, true, true, true, true, true, true, true, true, true, true] rfl rfl (any_of HT_.out (by kernel_rfl)) (fun _ _ _ h => h) (Or.inl ⟨by rfl, ?_⟩) ?_ ?_
                rotate_left
                · intro w'
                  go_simp
                  with_reducible rfl
                rotate_left
                · simp only [Act.put, List.setIfInBounds_toArray, List.set_cons_zero, List.set_cons_succ, i64_w, i32_w]
                  rfl
                refine done_ (done_of HT_.out (by kernel_rfl)) ?_
                try go_wp2
                go_ret
                exact ⟨by first | rfl | (simp [errW_none, errW_some] <;> rfl) | (simp [*, errW_none, errW_some] <;> rfl), by repeat (first | (with_reducible first | exact HB.out | apply below_alloc | apply pw_below_drewN | apply below_drew1 | refine below_set ?_ GE200.out | refine below_set ?_ GE289.out | refine below_set ?_ GE300.out) | exact HB.out)⟩
              · rw [if_neg c86] at H
                have c86b0 : (t287.toList == t298.toList) = false := beq_eq_false_iff_ne.mpr c86
                have c86b1 : (t287.toList != t298.toList) = true := bne_iff_ne.mpr c86
                exact absurd ((Option.some.inj H).trans hr_) (by decide)
            · rw [if_neg c85] at H
              have c85b0 : (t301 == t290 && (t302 == t291 && (t303 == t292 && (t304 == t293 && (t305 == t294 && (t306 == t295 && (t307 == t296 && (t308.toList == t297.toList)))))))) = false := by simpa using c85
              (try (have c85b1 : decide (t301 = t290 && (t302 == t291 && (t303 == t292 && (t304 == t293 && (t305 == t294 && (t306 == t295 && (t307 == t296 && (t308.toList == t297.toList)))))))) = false := by simpa using c85))
              (try (have c85b2 : (t301 == t290 && (t302 == t291 && (t303 == t292 && (t304 == t293 && (t305 == t294 && (t306 == t295 && (t307 == t296 && (t308.toList == t297.toList)))))))) = false := by simpa using c85))
              (try (have c85b3 : ¬ (t301 = t290 && (t302 == t291 && (t303 == t292 && (t304 == t293 && (t305 == t294 && (t306 == t295 && (t307 == t296 && (t308.toList == t297.toList)))))))) := by simpa using c85))
              clear c85
              exact absurd ((Option.some.inj H).trans hr_) (by decide)
  · replace c8 := Bool.eq_false_iff.mpr c8
    subst c8
    have H1 : (some false) = some r := by rw [if_neg (show ¬ (false = true) by decide)] at H; exact H
    clear H
    have H := H1
    clear H1
    exact absurd ((Option.some.inj H).trans hr_) (by decide)

/-- THE ONE PURE STATEMENT of weighbridgelaw05_TcpParses: yours. -/
def weighbridgelaw05_TcpParses.Pure : Prop := ∀ (a0 : ByteArray) (a1_0 : Int) (a1_1 : Int) (a1_2 : Int) (a1_3 : Int) (a1_4 : Int) (a1_5 : Int) (a1_6 : Int) (a1_7 : ByteArray) (a2 : ByteArray) (a3 : Bool) (a4 : Int) (a5 : Int), a0.size ≤ 140737488351232 → (Lit.int .i64 a1_0).wf = true → (Lit.int .i64 a1_1).wf = true → (Lit.int .u32 a1_2).wf = true → (Lit.int .u32 a1_3).wf = true → (Lit.int .i64 a1_4).wf = true → (Lit.int .i64 a1_5).wf = true → (Lit.int .i64 a1_6).wf = true → a1_7.size ≤ 140737488351232 → a2.size ≤ 140737488351232 → (Lit.int .i64 a4).wf = true → (Lit.int .u8 a5).wf = true → ∃ k, weighbridgelaw05_TcpParses.f k a0 a1_0 a1_1 a1_2 a1_3 a1_4 a1_5 a1_6 a1_7 a2 a3 a4 a5 = some true
theorem weighbridgelaw05_TcpParses.walk (P : weighbridgelaw05_TcpParses.Pure) (a0 : ByteArray) (a1_0 : Int) (a1_1 : Int) (a1_2 : Int) (a1_3 : Int) (a1_4 : Int) (a1_5 : Int) (a1_6 : Int) (a1_7 : ByteArray) (a2 : ByteArray) (a3 : Bool) (a4 : Int) (a5 : Int) (w : World) (w0 : a0.size ≤ 140737488351232) (w1_0 : (Lit.int .i64 a1_0).wf = true) (w1_1 : (Lit.int .i64 a1_1).wf = true) (w1_2 : (Lit.int .u32 a1_2).wf = true) (w1_3 : (Lit.int .u32 a1_3).wf = true) (w1_4 : (Lit.int .i64 a1_4).wf = true) (w1_5 : (Lit.int .i64 a1_5).wf = true) (w1_6 : (Lit.int .i64 a1_6).wf = true) (w1_7 : a1_7.size ≤ 140737488351232) (w2 : a2.size ≤ 140737488351232) (w4 : (Lit.int .i64 a4).wf = true) (w5 : (Lit.int .u8 a5).wf = true) :
    Calls Try.prog 4 #[.string a0, .agg #[.int .i64 a1_0, .int .i64 a1_1, .int .u32 a1_2, .int .u32 a1_3, .int .i64 a1_4, .int .i64 a1_5, .int .i64 a1_6, .string a1_7], .string a2, .bool a3, .int .i64 a4, .int .u8 a5] w fun e w' => e = .returned (.bool true) ∧ Below w.heap.size w w' := by
  obtain ⟨k, h⟩ := P a0 a1_0 a1_1 a1_2 a1_3 a1_4 a1_5 a1_6 a1_7 a2 a3 a4 a5 w0 w1_0 w1_1 w1_2 w1_3 w1_4 w1_5 w1_6 w1_7 w2 w4 w5
  refine (weighbridgelaw05_TcpParses.calls k a0 a1_0 a1_1 a1_2 a1_3 a1_4 a1_5 a1_6 a1_7 a2 a3 a4 a5 true w h rfl).mono ?_
  rintro e w' ⟨rfl, hd⟩
  exact ⟨rfl, hd⟩
def weighbridgelaw05_TcpParses.PureU : Prop := ∀ (a0 : ByteArray) (a1_0 : Int) (a1_1 : Int) (a1_2 : Int) (a1_3 : Int) (a1_4 : Int) (a1_5 : Int) (a1_6 : Int) (a1_7 : ByteArray) (a2 : ByteArray) (a3 : Bool) (a4 : Int) (a5 : Int), a0.size ≤ 1048576 → (Lit.int .i64 a1_0).wf = true → (Lit.int .i64 a1_1).wf = true → (Lit.int .u32 a1_2).wf = true → (Lit.int .u32 a1_3).wf = true → (Lit.int .i64 a1_4).wf = true → (Lit.int .i64 a1_5).wf = true → (Lit.int .i64 a1_6).wf = true → a1_7.size ≤ 1048576 → a2.size ≤ 1048576 → (Lit.int .i64 a4).wf = true → (Lit.int .u8 a5).wf = true → ∃ k, weighbridgelaw05_TcpParses.f k a0 a1_0 a1_1 a1_2 a1_3 a1_4 a1_5 a1_6 a1_7 a2 a3 a4 a5 = some true
theorem weighbridgelaw05_TcpParses.walkU (P : weighbridgelaw05_TcpParses.PureU) (a0 : ByteArray) (a1_0 : Int) (a1_1 : Int) (a1_2 : Int) (a1_3 : Int) (a1_4 : Int) (a1_5 : Int) (a1_6 : Int) (a1_7 : ByteArray) (a2 : ByteArray) (a3 : Bool) (a4 : Int) (a5 : Int) (w : World) (w0 : a0.size ≤ 1048576) (w1_0 : (Lit.int .i64 a1_0).wf = true) (w1_1 : (Lit.int .i64 a1_1).wf = true) (w1_2 : (Lit.int .u32 a1_2).wf = true) (w1_3 : (Lit.int .u32 a1_3).wf = true) (w1_4 : (Lit.int .i64 a1_4).wf = true) (w1_5 : (Lit.int .i64 a1_5).wf = true) (w1_6 : (Lit.int .i64 a1_6).wf = true) (w1_7 : a1_7.size ≤ 1048576) (w2 : a2.size ≤ 1048576) (w4 : (Lit.int .i64 a4).wf = true) (w5 : (Lit.int .u8 a5).wf = true) :
    Calls Try.prog 4 #[.string a0, .agg #[.int .i64 a1_0, .int .i64 a1_1, .int .u32 a1_2, .int .u32 a1_3, .int .i64 a1_4, .int .i64 a1_5, .int .i64 a1_6, .string a1_7], .string a2, .bool a3, .int .i64 a4, .int .u8 a5] w fun e w' => e = .returned (.bool true) ∧ Below w.heap.size w w' := by
  obtain ⟨k, h⟩ := P a0 a1_0 a1_1 a1_2 a1_3 a1_4 a1_5 a1_6 a1_7 a2 a3 a4 a5 w0 w1_0 w1_1 w1_2 w1_3 w1_4 w1_5 w1_6 w1_7 w2 w4 w5
  refine (weighbridgelaw05_TcpParses.calls k a0 a1_0 a1_1 a1_2 a1_3 a1_4 a1_5 a1_6 a1_7 a2 a3 a4 a5 true w h rfl).mono ?_
  rintro e w' ⟨rfl, hd⟩
  exact ⟨rfl, hd⟩

end Go.Proofs.Ytlhpfoibohiggaa.Pr
