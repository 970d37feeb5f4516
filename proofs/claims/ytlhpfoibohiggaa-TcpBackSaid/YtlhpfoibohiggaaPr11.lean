-- Written by a program of the session (wip/tools) out of the translation, over the kit's print; with pieces of the session's own.
import Derived.Test.YtlhpfoibohiggaaPr0
import Derived.Test.YtlhpfoibohiggaaPr1
import Derived.Test.YtlhpfoibohiggaaPr4
import Derived.Test.YtlhpfoibohiggaaPr5
namespace Go.Proofs.Ytlhpfoibohiggaa.Pr
open Go.RowKit Go.Proofs.YtlhpfoibohiggaaW.PrintWords Go.Proofs.YtlhpfoibohiggaaW.PrintLast Go.Proofs.YtlhpfoibohiggaaW.PrintMore
attribute [local go_sem] max2_int min2_int max_two min_two max_three min_three max_four min_four   -- for this text's walks alone
set_option linter.unusedVariables false
set_option linter.unusedSimpArgs false
open Go.Proofs.Ytlhpfoibohiggaa.Sp
attribute [local go_sem high] eqA24
/-! ### weighbridgelaw05_TcpBack: function 5 -/
mutual
def weighbridgelaw05_TcpBack.j0 : Nat → ByteArray → Bool → Option (Bool)
  | 0, _, _ => none
  | k + 1, x2, x7 => (tcp_Parse.f x2).bind fun bt324 => ((tcp_Build.f bt324.1 bt324.2.1 bt324.2.2.1 bt324.2.2.2.1 bt324.2.2.2.2.1 bt324.2.2.2.2.2.1 bt324.2.2.2.2.2.2.1 bt324.2.2.2.2.2.2.2.1 bt324.2.2.2.2.2.2.2.2.1).bind fun bt335 => (if bt324.2.2.2.2.2.2.2.2.2 = 0 then (weighbridgelaw05_TcpBack.j1 k x2 x7 bt324.2.2.2.2.2.2.2.2.1 bt324.2.2.2.2.2.2.2.2.2 bt335.1 bt335.2 (decide ((x2.size : Int) > 1500)) bt324.1 bt324.2.1 bt324.2.2.1 bt324.2.2.2.1 bt324.2.2.2.2.1 bt324.2.2.2.2.2.1 bt324.2.2.2.2.2.2.1 bt324.2.2.2.2.2.2.2.1) else (weighbridgelaw05_TcpBack.j1 k x2 x7 bt324.2.2.2.2.2.2.2.2.1 bt324.2.2.2.2.2.2.2.2.2 bt335.1 bt335.2 true bt324.1 bt324.2.1 bt324.2.2.1 bt324.2.2.2.1 bt324.2.2.2.2.1 bt324.2.2.2.2.2.1 bt324.2.2.2.2.2.2.1 bt324.2.2.2.2.2.2.2.1)))
def weighbridgelaw05_TcpBack.j1 : Nat → ByteArray → Bool → ByteArray → Int → ByteArray → Int → Bool → Int → Int → Int → Int → Int → Int → Int → ByteArray → Option (Bool)
  | 0, _, _, _, _, _, _, _, _, _, _, _, _, _, _, _ => none
  | k + 1, x2, x7, x14, x15, x16, x17, x65, x335000, x335001, x335002, x335003, x335004, x335005, x335006, x335007 => if x65 = true then (if x7 = true then (if x15 = 0 then (some true) else (if (x335000 == 0 && (x335001 == 0 && (x335002 == 0 && (x335003 == 0 && (x335004 == 0 && (x335005 == 0 && (x335006 == 0 && (x335007.toList == ([] : List UInt8))))))))) = true then (some (x14.toList == ([] : List UInt8))) else (some false))) else (some false)) else (if x17 = 0 then (if (x16.size : Int) = (x2.size : Int) then (if x7 = true then (if 0 ≤ 16 then (if 16 ≤ (x16.size : Int) then (if 16 ≤ (x2.size : Int) then (if (x16.extract 0 16).toList = (x2.extract 0 16).toList then (if 18 ≤ (x16.size : Int) then (if 18 ≤ (x2.size : Int) then (if (x16.extract 18 x16.size).toList = (x2.extract 18 x2.size).toList then (if 16 ≤ 18 then (some ((x16.extract 16 18).toList == ([0, 0] : List UInt8))) else (none)) else (some false)) else (none)) else (none)) else (some false)) else (none)) else (none)) else (none)) else (some false)) else (some false)) else (some false))
end
def weighbridgelaw05_TcpBack.f (k : Nat) (a0_0 : Int) (a0_1 : Int) (a0_2 : Int) (a0_3 : Int) (a0_4 : Int) (a0_5 : Int) (a0_6 : Int) (a0_7 : ByteArray) (a1 : ByteArray) (a2 : ByteArray) : Option (Bool) := (weighbridgelaw05_examples.f).bind fun t310 => (if t310 = true then ((tcp_Build.f a0_0 a0_1 a0_2 a0_3 a0_4 a0_5 a0_6 a0_7 a1).bind fun bt311 => (if bt311.2 = 0 then ((tcp_Parse.f bt311.1).bind fun bt313 => (if (!(bt313.1 == a0_0) || (!(bt313.2.1 == a0_1) || (!(bt313.2.2.1 == a0_2) || (!(bt313.2.2.2.1 == a0_3) || (!(bt313.2.2.2.2.1 == a0_4) || (!(bt313.2.2.2.2.2.1 == a0_5) || (!(bt313.2.2.2.2.2.2.1 == a0_6) || (!(bt313.2.2.2.2.2.2.2.1.toList == a0_7.toList))))))))) = true then (some false) else (if bt313.2.2.2.2.2.2.2.2.1.toList = a1.toList then (if bt313.2.2.2.2.2.2.2.2.2 = 0 then (weighbridgelaw05_TcpBack.j0 k a2 t310) else (some false)) else (some false)))) else (weighbridgelaw05_TcpBack.j0 k a2 t310))) else (some false))
theorem weighbridgelaw05_TcpBack.mono_l : ∀ k, (∀ y0 y1, LeO (weighbridgelaw05_TcpBack.j0 k y0 y1) (weighbridgelaw05_TcpBack.j0 (k + 1) y0 y1)) ∧ (∀ y0 y1 y2 y3 y4 y5 y6 y7 y8 y9 y10 y11 y12 y13 y14, LeO (weighbridgelaw05_TcpBack.j1 k y0 y1 y2 y3 y4 y5 y6 y7 y8 y9 y10 y11 y12 y13 y14) (weighbridgelaw05_TcpBack.j1 (k + 1) y0 y1 y2 y3 y4 y5 y6 y7 y8 y9 y10 y11 y12 y13 y14))
  | 0 => ⟨fun _ _ r h => by simp [weighbridgelaw05_TcpBack.j0] at h, fun _ _ _ _ _ _ _ _ _ _ _ _ _ _ _ r h => by simp [weighbridgelaw05_TcpBack.j1] at h⟩
  | k + 1 => by
    obtain ⟨ih0, ih1⟩ := weighbridgelaw05_TcpBack.mono_l k
    refine ⟨?_, ?_⟩
    · intro y0 y1
      unfold weighbridgelaw05_TcpBack.j0
      repeat' first
      | (with_reducible exact ih0 _ _)
      | (with_reducible exact ih1 _ _ _ _ _ _ _ _ _ _ _ _ _ _ _)
      | (with_reducible exact LeO.refl _)
      | (with_reducible exact LeO.none _)
      | (with_reducible refine LeO.ite ?_ ?_)
      | (with_reducible refine LeO.bind ?_ (fun _ => ?_))
      | exact ih0 _ _
      | exact ih1 _ _ _ _ _ _ _ _ _ _ _ _ _ _ _
      | exact LeO.none _
      | refine LeO.ite ?_ ?_
      | refine LeO.bind ?_ (fun _ => ?_)
    · intro y0 y1 y2 y3 y4 y5 y6 y7 y8 y9 y10 y11 y12 y13 y14
      unfold weighbridgelaw05_TcpBack.j1
      repeat' first
      | (with_reducible exact ih0 _ _)
      | (with_reducible exact ih1 _ _ _ _ _ _ _ _ _ _ _ _ _ _ _)
      | (with_reducible exact LeO.refl _)
      | (with_reducible exact LeO.none _)
      | (with_reducible refine LeO.ite ?_ ?_)
      | (with_reducible refine LeO.bind ?_ (fun _ => ?_))
      | exact ih0 _ _
      | exact ih1 _ _ _ _ _ _ _ _ _ _ _ _ _ _ _
      | exact LeO.none _
      | refine LeO.ite ?_ ?_
      | refine LeO.bind ?_ (fun _ => ?_)
theorem weighbridgelaw05_TcpBack.mono : ∀ a0 a1 a2 a3 a4 a5 a6 a7 a8 a9 k, LeO (weighbridgelaw05_TcpBack.f k a0 a1 a2 a3 a4 a5 a6 a7 a8 a9) (weighbridgelaw05_TcpBack.f (k + 1) a0 a1 a2 a3 a4 a5 a6 a7 a8 a9) := by
  intro a0 a1 a2 a3 a4 a5 a6 a7 a8 a9 k
  obtain ⟨ih0, ih1⟩ := weighbridgelaw05_TcpBack.mono_l k
  unfold weighbridgelaw05_TcpBack.f
  repeat' first
      | (with_reducible exact ih0 _ _)
      | (with_reducible exact ih1 _ _ _ _ _ _ _ _ _ _ _ _ _ _ _)
      | (with_reducible exact LeO.refl _)
      | (with_reducible exact LeO.none _)
      | (with_reducible refine LeO.ite ?_ ?_)
      | (with_reducible refine LeO.bind ?_ (fun _ => ?_))
      | exact ih0 _ _
      | exact ih1 _ _ _ _ _ _ _ _ _ _ _ _ _ _ _
      | exact LeO.none _
      | refine LeO.ite ?_ ?_
      | refine LeO.bind ?_ (fun _ => ?_)
set_option maxHeartbeats 8000000 in
set_option maxRecDepth 100000 in
theorem weighbridgelaw05_TcpBack.calls (k : Nat) (a0_0 : Int) (a0_1 : Int) (a0_2 : Int) (a0_3 : Int) (a0_4 : Int) (a0_5 : Int) (a0_6 : Int) (a0_7 : ByteArray) (a1 : ByteArray) (a2 : ByteArray) (r : Bool) (w : World) (h : weighbridgelaw05_TcpBack.f k a0_0 a0_1 a0_2 a0_3 a0_4 a0_5 a0_6 a0_7 a1 a2 = some r) (hr_ : r = true) :
    Calls Try.prog 5 #[.agg #[.int .i64 a0_0, .int .i64 a0_1, .int .u32 a0_2, .int .u32 a0_3, .int .i64 a0_4, .int .i64 a0_5, .int .i64 a0_6, .string a0_7], .string a1, .string a2] w fun e w' => e = .returned (.bool r) ∧ Below w.heap.size w w' := by
  have hu24 := Try.underlying24
  have HB := Aside0.mk (Below.refl w.heap.size w)
  have H : ((weighbridgelaw05_examples.f).bind fun t310 => (if t310 = true then ((tcp_Build.f a0_0 a0_1 a0_2 a0_3 a0_4 a0_5 a0_6 a0_7 a1).bind fun bt311 => (if bt311.2 = 0 then ((tcp_Parse.f bt311.1).bind fun bt313 => (if (!(bt313.1 == a0_0) || (!(bt313.2.1 == a0_1) || (!(bt313.2.2.1 == a0_2) || (!(bt313.2.2.2.1 == a0_3) || (!(bt313.2.2.2.2.1 == a0_4) || (!(bt313.2.2.2.2.2.1 == a0_5) || (!(bt313.2.2.2.2.2.2.1 == a0_6) || (!(bt313.2.2.2.2.2.2.2.1.toList == a0_7.toList))))))))) = true then (some false) else (if bt313.2.2.2.2.2.2.2.2.1.toList = a1.toList then (if bt313.2.2.2.2.2.2.2.2.2 = 0 then (weighbridgelaw05_TcpBack.j0 k a2 t310) else (some false)) else (some false)))) else (weighbridgelaw05_TcpBack.j0 k a2 t310))) else (some false))) = some r := h
  clear h
  replace H := Option.bind_eq_some_iff.mp H
  obtain ⟨t310, A40, H⟩ := H
  replace H : (if t310 = true then ((tcp_Build.f a0_0 a0_1 a0_2 a0_3 a0_4 a0_5 a0_6 a0_7 a1).bind fun bt311 => (if bt311.2 = 0 then ((tcp_Parse.f bt311.1).bind fun bt313 => (if (!(bt313.1 == a0_0) || (!(bt313.2.1 == a0_1) || (!(bt313.2.2.1 == a0_2) || (!(bt313.2.2.2.1 == a0_3) || (!(bt313.2.2.2.2.1 == a0_4) || (!(bt313.2.2.2.2.2.1 == a0_5) || (!(bt313.2.2.2.2.2.2.1 == a0_6) || (!(bt313.2.2.2.2.2.2.2.1.toList == a0_7.toList))))))))) = true then (some false) else (if bt313.2.2.2.2.2.2.2.2.1.toList = a1.toList then (if bt313.2.2.2.2.2.2.2.2.2 = 0 then (weighbridgelaw05_TcpBack.j0 k a2 t310) else (some false)) else (some false)))) else (weighbridgelaw05_TcpBack.j0 k a2 t310))) else (some false)) = some r := H
  have A4 := Aside0.mk A40
  clear A40
  by_cases c5 : t310 = true
  · subst c5
    have H1 : ((tcp_Build.f a0_0 a0_1 a0_2 a0_3 a0_4 a0_5 a0_6 a0_7 a1).bind fun bt311 => (if bt311.2 = 0 then ((tcp_Parse.f bt311.1).bind fun bt313 => (if (!(bt313.1 == a0_0) || (!(bt313.2.1 == a0_1) || (!(bt313.2.2.1 == a0_2) || (!(bt313.2.2.2.1 == a0_3) || (!(bt313.2.2.2.2.1 == a0_4) || (!(bt313.2.2.2.2.2.1 == a0_5) || (!(bt313.2.2.2.2.2.2.1 == a0_6) || (!(bt313.2.2.2.2.2.2.2.1.toList == a0_7.toList))))))))) = true then (some false) else (if bt313.2.2.2.2.2.2.2.2.1.toList = a1.toList then (if bt313.2.2.2.2.2.2.2.2.2 = 0 then (weighbridgelaw05_TcpBack.j0 k a2 true) else (some false)) else (some false)))) else (weighbridgelaw05_TcpBack.j0 k a2 true))) = some r := by first | (rw [if_pos rfl] at H; exact H) | (rw [if_pos trivial] at H; exact H)
    clear H
    have H := H1
    clear H1
    replace H := Option.bind_eq_some_iff.mp H
    obtain ⟨⟨t311, t312⟩, A60, H⟩ := H
    replace H : (if t312 = 0 then ((tcp_Parse.f t311).bind fun bt313 => (if (!(bt313.1 == a0_0) || (!(bt313.2.1 == a0_1) || (!(bt313.2.2.1 == a0_2) || (!(bt313.2.2.2.1 == a0_3) || (!(bt313.2.2.2.2.1 == a0_4) || (!(bt313.2.2.2.2.2.1 == a0_5) || (!(bt313.2.2.2.2.2.2.1 == a0_6) || (!(bt313.2.2.2.2.2.2.2.1.toList == a0_7.toList))))))))) = true then (some false) else (if bt313.2.2.2.2.2.2.2.2.1.toList = a1.toList then (if bt313.2.2.2.2.2.2.2.2.2 = 0 then (weighbridgelaw05_TcpBack.j0 k a2 true) else (some false)) else (some false)))) else (weighbridgelaw05_TcpBack.j0 k a2 true)) = some r := H
    have A6 := Aside0.mk A60
    clear A60
    have HC7 := Aside0.mk H
    clear H
    go_enter Try.func5, Try.ntmps5
    go_upto_if 28 with (first | ((with_reducible refine gate_dst (N := 3) rfl ?_); (try (refine gate_guard (by rfl) ?_; dsimp only)); refine box_event ?hg (N := 3) ?hd (cs := #[.int .i64 a0_0, .int .i64 a0_1, .int .u32 a0_2, .int .u32 a0_3, .int .i64 a0_4, .int .i64 a0_5, .int .i64 a0_6, .string a0_7]) (t := 24) ?hr ?_; (case hd => rfl); (case hg => rfl); (case hr => first | (go_simp; done) | (go_simp; rfl)); intro gb309 hg w8 hbox hb; have n0_ := Aside0.mk (below_step (by repeat (first | (with_reducible first | exact HB.out | apply below_alloc | apply pw_below_drewN | apply below_drew1) | exact HB.out)) hb); have n1_ := Aside0.mk (hbox); have n2_ := Aside0.mk ((by rw [hg]; exact (below_size (by repeat (first | (with_reducible first | exact HB.out | apply below_alloc | apply pw_below_drewN | apply below_drew1) | exact HB.out))) : w.heap.size ≤ gb309)); have n3_ := Aside0.mk ((by rw [hg]; exact (below_size (by repeat (first | (with_reducible first | exact HB.out | apply below_alloc | apply pw_below_drewN | apply below_drew1) | exact HB.out))) : w.heap.size ≤ gb309)); clear HB; have HB := n0_; have BK309 := n1_; have GW309 := n2_; have GE309 := n3_; clear n0_ n1_ n2_ n3_; clear hb hbox hg) | (go_at_call 10; (with_reducible refine (weighbridgelaw05_examples.calls  true _ A4.out).mono ?_); rintro e w9 ⟨rfl, hb⟩; have n0_ := Aside0.mk (blk_below (g := gb309) (o := .cells #[.int .i64 a0_0, .int .i64 a0_1, .int .u32 a0_2, .int .u32 a0_3, .int .i64 a0_4, .int .i64 a0_5, .int .i64 a0_6, .string a0_7] 24 (0, 0)) (by (with_reducible repeat (first | refine blk_drewN ?_ _ | refine blk_drew ?_ | refine blk_alloc ?_ _)); exact BK309.out) hb); have n1_ := Aside0.mk (below_step (by repeat (first | (with_reducible first | exact HB.out | apply below_alloc | apply pw_below_drewN | apply below_drew1 | refine below_set ?_ GE309.out) | exact HB.out)) hb); clear BK309; clear HB; have BK309 := n0_; have HB := n1_; clear n0_ n1_; (try clear hb); (try clear hb2); (try clear hk); (try clear hi); have hcz10_0 : w9.cell? ⟨gb309, 0, none⟩ = some (.int .i64 a0_0) := (blk_cell BK309.out 0).trans rfl; have hcz10_1 : w9.cell? ⟨gb309, 1, none⟩ = some (.int .i64 a0_1) := (blk_cell BK309.out 1).trans rfl; have hcz10_2 : w9.cell? ⟨gb309, 2, none⟩ = some (.int .u32 a0_2) := (blk_cell BK309.out 2).trans rfl; have hcz10_3 : w9.cell? ⟨gb309, 3, none⟩ = some (.int .u32 a0_3) := (blk_cell BK309.out 3).trans rfl; have hcz10_4 : w9.cell? ⟨gb309, 4, none⟩ = some (.int .i64 a0_4) := (blk_cell BK309.out 4).trans rfl; have hcz10_5 : w9.cell? ⟨gb309, 5, none⟩ = some (.int .i64 a0_5) := (blk_cell BK309.out 5).trans rfl; have hcz10_6 : w9.cell? ⟨gb309, 6, none⟩ = some (.int .i64 a0_6) := (blk_cell BK309.out 6).trans rfl; have hcz10_7 : w9.cell? ⟨gb309, 7, none⟩ = some (.string a0_7) := (blk_cell BK309.out 7).trans rfl; have hfz10_0 := blk_frozen BK309.out 0; have hfz10_1 := blk_frozen BK309.out 1; have hfz10_2 := blk_frozen BK309.out 2; have hfz10_3 := blk_frozen BK309.out 3; have hfz10_4 := blk_frozen BK309.out 4; have hfz10_5 := blk_frozen BK309.out 5; have hfz10_6 := blk_frozen BK309.out 6; have hfz10_7 := blk_frozen BK309.out 7) | (go_at_call 11; (with_reducible refine (tcp_Build.calls a0_0 a0_1 a0_2 a0_3 a0_4 a0_5 a0_6 a0_7 a1 t311 t312 _ A6.out).mono ?_); rintro e w11 ⟨rfl, hb⟩; have n0_ := Aside0.mk (blk_below (g := gb309) (o := .cells #[.int .i64 a0_0, .int .i64 a0_1, .int .u32 a0_2, .int .u32 a0_3, .int .i64 a0_4, .int .i64 a0_5, .int .i64 a0_6, .string a0_7] 24 (0, 0)) (by (with_reducible repeat (first | refine blk_drewN ?_ _ | refine blk_drew ?_ | refine blk_alloc ?_ _)); exact BK309.out) hb); have n1_ := Aside0.mk (below_step (by repeat (first | (with_reducible first | exact HB.out | apply below_alloc | apply pw_below_drewN | apply below_drew1 | refine below_set ?_ GE309.out) | exact HB.out)) hb); clear BK309; clear HB; have BK309 := n0_; have HB := n1_; clear n0_ n1_; (try clear hb); (try clear hb2); (try clear hk); (try clear hi)))
    repeat (go_quiet (first | ((with_reducible refine gate_dst (N := 3) rfl ?_); (try (refine gate_guard (by rfl) ?_; dsimp only)); refine box_event ?hg (N := 3) ?hd (cs := #[.int .i64 a0_0, .int .i64 a0_1, .int .u32 a0_2, .int .u32 a0_3, .int .i64 a0_4, .int .i64 a0_5, .int .i64 a0_6, .string a0_7]) (t := 24) ?hr ?_; (case hd => rfl); (case hg => rfl); (case hr => first | (go_simp; done) | (go_simp; rfl)); intro gb309 hg w8 hbox hb; have n0_ := Aside0.mk (below_step (by repeat (first | (with_reducible first | exact HB.out | apply below_alloc | apply pw_below_drewN | apply below_drew1) | exact HB.out)) hb); have n1_ := Aside0.mk (hbox); have n2_ := Aside0.mk ((by rw [hg]; exact (below_size (by repeat (first | (with_reducible first | exact HB.out | apply below_alloc | apply pw_below_drewN | apply below_drew1) | exact HB.out))) : w.heap.size ≤ gb309)); have n3_ := Aside0.mk ((by rw [hg]; exact (below_size (by repeat (first | (with_reducible first | exact HB.out | apply below_alloc | apply pw_below_drewN | apply below_drew1) | exact HB.out))) : w.heap.size ≤ gb309)); clear HB; have HB := n0_; have BK309 := n1_; have GW309 := n2_; have GE309 := n3_; clear n0_ n1_ n2_ n3_; clear hb hbox hg) | (go_at_call 10; (with_reducible refine (weighbridgelaw05_examples.calls  true _ A4.out).mono ?_); rintro e w9 ⟨rfl, hb⟩; have n0_ := Aside0.mk (blk_below (g := gb309) (o := .cells #[.int .i64 a0_0, .int .i64 a0_1, .int .u32 a0_2, .int .u32 a0_3, .int .i64 a0_4, .int .i64 a0_5, .int .i64 a0_6, .string a0_7] 24 (0, 0)) (by (with_reducible repeat (first | refine blk_drewN ?_ _ | refine blk_drew ?_ | refine blk_alloc ?_ _)); exact BK309.out) hb); have n1_ := Aside0.mk (below_step (by repeat (first | (with_reducible first | exact HB.out | apply below_alloc | apply pw_below_drewN | apply below_drew1 | refine below_set ?_ GE309.out) | exact HB.out)) hb); clear BK309; clear HB; have BK309 := n0_; have HB := n1_; clear n0_ n1_; (try clear hb); (try clear hb2); (try clear hk); (try clear hi); have hcz10_0 : w9.cell? ⟨gb309, 0, none⟩ = some (.int .i64 a0_0) := (blk_cell BK309.out 0).trans rfl; have hcz10_1 : w9.cell? ⟨gb309, 1, none⟩ = some (.int .i64 a0_1) := (blk_cell BK309.out 1).trans rfl; have hcz10_2 : w9.cell? ⟨gb309, 2, none⟩ = some (.int .u32 a0_2) := (blk_cell BK309.out 2).trans rfl; have hcz10_3 : w9.cell? ⟨gb309, 3, none⟩ = some (.int .u32 a0_3) := (blk_cell BK309.out 3).trans rfl; have hcz10_4 : w9.cell? ⟨gb309, 4, none⟩ = some (.int .i64 a0_4) := (blk_cell BK309.out 4).trans rfl; have hcz10_5 : w9.cell? ⟨gb309, 5, none⟩ = some (.int .i64 a0_5) := (blk_cell BK309.out 5).trans rfl; have hcz10_6 : w9.cell? ⟨gb309, 6, none⟩ = some (.int .i64 a0_6) := (blk_cell BK309.out 6).trans rfl; have hcz10_7 : w9.cell? ⟨gb309, 7, none⟩ = some (.string a0_7) := (blk_cell BK309.out 7).trans rfl; have hfz10_0 := blk_frozen BK309.out 0; have hfz10_1 := blk_frozen BK309.out 1; have hfz10_2 := blk_frozen BK309.out 2; have hfz10_3 := blk_frozen BK309.out 3; have hfz10_4 := blk_frozen BK309.out 4; have hfz10_5 := blk_frozen BK309.out 5; have hfz10_6 := blk_frozen BK309.out 6; have hfz10_7 := blk_frozen BK309.out 7) | (go_at_call 11; (with_reducible refine (tcp_Build.calls a0_0 a0_1 a0_2 a0_3 a0_4 a0_5 a0_6 a0_7 a1 t311 t312 _ A6.out).mono ?_); rintro e w11 ⟨rfl, hb⟩; have n0_ := Aside0.mk (blk_below (g := gb309) (o := .cells #[.int .i64 a0_0, .int .i64 a0_1, .int .u32 a0_2, .int .u32 a0_3, .int .i64 a0_4, .int .i64 a0_5, .int .i64 a0_6, .string a0_7] 24 (0, 0)) (by (with_reducible repeat (first | refine blk_drewN ?_ _ | refine blk_drew ?_ | refine blk_alloc ?_ _)); exact BK309.out) hb); have n1_ := Aside0.mk (below_step (by repeat (first | (with_reducible first | exact HB.out | apply below_alloc | apply pw_below_drewN | apply below_drew1 | refine below_set ?_ GE309.out) | exact HB.out)) hb); clear BK309; clear HB; have BK309 := n0_; have HB := n1_; clear n0_ n1_; (try clear hb); (try clear hb2); (try clear hk); (try clear hi))); go_upto_if 28 with (first | ((with_reducible refine gate_dst (N := 3) rfl ?_); (try (refine gate_guard (by rfl) ?_; dsimp only)); refine box_event ?hg (N := 3) ?hd (cs := #[.int .i64 a0_0, .int .i64 a0_1, .int .u32 a0_2, .int .u32 a0_3, .int .i64 a0_4, .int .i64 a0_5, .int .i64 a0_6, .string a0_7]) (t := 24) ?hr ?_; (case hd => rfl); (case hg => rfl); (case hr => first | (go_simp; done) | (go_simp; rfl)); intro gb309 hg w8 hbox hb; have n0_ := Aside0.mk (below_step (by repeat (first | (with_reducible first | exact HB.out | apply below_alloc | apply pw_below_drewN | apply below_drew1) | exact HB.out)) hb); have n1_ := Aside0.mk (hbox); have n2_ := Aside0.mk ((by rw [hg]; exact (below_size (by repeat (first | (with_reducible first | exact HB.out | apply below_alloc | apply pw_below_drewN | apply below_drew1) | exact HB.out))) : w.heap.size ≤ gb309)); have n3_ := Aside0.mk ((by rw [hg]; exact (below_size (by repeat (first | (with_reducible first | exact HB.out | apply below_alloc | apply pw_below_drewN | apply below_drew1) | exact HB.out))) : w.heap.size ≤ gb309)); clear HB; have HB := n0_; have BK309 := n1_; have GW309 := n2_; have GE309 := n3_; clear n0_ n1_ n2_ n3_; clear hb hbox hg) | (go_at_call 10; (with_reducible refine (weighbridgelaw05_examples.calls  true _ A4.out).mono ?_); rintro e w9 ⟨rfl, hb⟩; have n0_ := Aside0.mk (blk_below (g := gb309) (o := .cells #[.int .i64 a0_0, .int .i64 a0_1, .int .u32 a0_2, .int .u32 a0_3, .int .i64 a0_4, .int .i64 a0_5, .int .i64 a0_6, .string a0_7] 24 (0, 0)) (by (with_reducible repeat (first | refine blk_drewN ?_ _ | refine blk_drew ?_ | refine blk_alloc ?_ _)); exact BK309.out) hb); have n1_ := Aside0.mk (below_step (by repeat (first | (with_reducible first | exact HB.out | apply below_alloc | apply pw_below_drewN | apply below_drew1 | refine below_set ?_ GE309.out) | exact HB.out)) hb); clear BK309; clear HB; have BK309 := n0_; have HB := n1_; clear n0_ n1_; (try clear hb); (try clear hb2); (try clear hk); (try clear hi); have hcz10_0 : w9.cell? ⟨gb309, 0, none⟩ = some (.int .i64 a0_0) := (blk_cell BK309.out 0).trans rfl; have hcz10_1 : w9.cell? ⟨gb309, 1, none⟩ = some (.int .i64 a0_1) := (blk_cell BK309.out 1).trans rfl; have hcz10_2 : w9.cell? ⟨gb309, 2, none⟩ = some (.int .u32 a0_2) := (blk_cell BK309.out 2).trans rfl; have hcz10_3 : w9.cell? ⟨gb309, 3, none⟩ = some (.int .u32 a0_3) := (blk_cell BK309.out 3).trans rfl; have hcz10_4 : w9.cell? ⟨gb309, 4, none⟩ = some (.int .i64 a0_4) := (blk_cell BK309.out 4).trans rfl; have hcz10_5 : w9.cell? ⟨gb309, 5, none⟩ = some (.int .i64 a0_5) := (blk_cell BK309.out 5).trans rfl; have hcz10_6 : w9.cell? ⟨gb309, 6, none⟩ = some (.int .i64 a0_6) := (blk_cell BK309.out 6).trans rfl; have hcz10_7 : w9.cell? ⟨gb309, 7, none⟩ = some (.string a0_7) := (blk_cell BK309.out 7).trans rfl; have hfz10_0 := blk_frozen BK309.out 0; have hfz10_1 := blk_frozen BK309.out 1; have hfz10_2 := blk_frozen BK309.out 2; have hfz10_3 := blk_frozen BK309.out 3; have hfz10_4 := blk_frozen BK309.out 4; have hfz10_5 := blk_frozen BK309.out 5; have hfz10_6 := blk_frozen BK309.out 6; have hfz10_7 := blk_frozen BK309.out 7) | (go_at_call 11; (with_reducible refine (tcp_Build.calls a0_0 a0_1 a0_2 a0_3 a0_4 a0_5 a0_6 a0_7 a1 t311 t312 _ A6.out).mono ?_); rintro e w11 ⟨rfl, hb⟩; have n0_ := Aside0.mk (blk_below (g := gb309) (o := .cells #[.int .i64 a0_0, .int .i64 a0_1, .int .u32 a0_2, .int .u32 a0_3, .int .i64 a0_4, .int .i64 a0_5, .int .i64 a0_6, .string a0_7] 24 (0, 0)) (by (with_reducible repeat (first | refine blk_drewN ?_ _ | refine blk_drew ?_ | refine blk_alloc ?_ _)); exact BK309.out) hb); have n1_ := Aside0.mk (below_step (by repeat (first | (with_reducible first | exact HB.out | apply below_alloc | apply pw_below_drewN | apply below_drew1 | refine below_set ?_ GE309.out) | exact HB.out)) hb); clear BK309; clear HB; have BK309 := n0_; have HB := n1_; clear n0_ n1_; (try clear hb); (try clear hb2); (try clear hk); (try clear hi))))
    (try simp only [Act.put, List.setIfInBounds_toArray, List.set_cons_zero, List.set_cons_succ])
    go_cut [] (fun wc => ∃ (kq : Nat), Aside0 (weighbridgelaw05_TcpBack.j0 kq a2 true = some r) ∧ Aside0 (kq ≤ k) ∧ Aside0 (wc.heap[gb309]? = some (.cells #[.int .i64 a0_0, .int .i64 a0_1, .int .u32 a0_2, .int .u32 a0_3, .int .i64 a0_4, .int .i64 a0_5, .int .i64 a0_6, .string a0_7] 24 (0, 0))) ∧ Aside0 (Below w.heap.size w wc))
    case first =>
      have H := HC7.out
      clear HC7
      by_cases c12 : t312 = 0
      · rw [if_pos c12] at H
        have c12b0 : (t312 == 0) = true := beq_iff_eq.mpr c12
        have c12b1 : (t312 != 0) = false := bne_eq_false_iff_eq.mpr c12
        clear c12
        (first | rw [c12b0] | (simp only [i64_w, i32_w]; rw [c12b0]) | skip)
        replace H := Option.bind_eq_some_iff.mp H
        obtain ⟨⟨t313, t314, t315, t316, t317, t318, t319, t320, t321, t322⟩, A130, H⟩ := H
        replace H : (if (!(t313 == a0_0) || (!(t314 == a0_1) || (!(t315 == a0_2) || (!(t316 == a0_3) || (!(t317 == a0_4) || (!(t318 == a0_5) || (!(t319 == a0_6) || (!(t320.toList == a0_7.toList))))))))) = true then (some false) else (if t321.toList = a1.toList then (if t322 = 0 then (weighbridgelaw05_TcpBack.j0 k a2 true) else (some false)) else (some false))) = some r := H
        have A13 := Aside0.mk A130
        clear A130
        by_cases c14 : (!(t313 == a0_0) || (!(t314 == a0_1) || (!(t315 == a0_2) || (!(t316 == a0_3) || (!(t317 == a0_4) || (!(t318 == a0_5) || (!(t319 == a0_6) || (!(t320.toList == a0_7.toList))))))))) = true
        · rw [if_pos c14] at H
          have c14b0 : (!(t313 == a0_0) || (!(t314 == a0_1) || (!(t315 == a0_2) || (!(t316 == a0_3) || (!(t317 == a0_4) || (!(t318 == a0_5) || (!(t319 == a0_6) || (!(t320.toList == a0_7.toList))))))))) = true := c14
          clear c14
          exact absurd ((Option.some.inj H).trans hr_) (by decide)
        · rw [if_neg c14] at H
          have c14b0 : (!(t313 == a0_0) || (!(t314 == a0_1) || (!(t315 == a0_2) || (!(t316 == a0_3) || (!(t317 == a0_4) || (!(t318 == a0_5) || (!(t319 == a0_6) || (!(t320.toList == a0_7.toList))))))))) = false := by simpa using c14
          clear c14
          by_cases c15 : t321.toList = a1.toList
          · rw [if_pos c15] at H
            have c15b0 : (t321.toList == a1.toList) = true := beq_iff_eq.mpr c15
            have c15b1 : (t321.toList != a1.toList) = false := bne_eq_false_iff_eq.mpr c15
            clear c15
            by_cases c16 : t322 = 0
            · rw [if_pos c16] at H
              have c16b0 : (t322 == 0) = true := beq_iff_eq.mpr c16
              have c16b1 : (t322 != 0) = false := bne_eq_false_iff_eq.mpr c16
              clear c16
              have H' := Aside0.mk H
              clear H
              go_wp2_with (first | (go_at_call 20; (with_reducible refine (tcp_Parse.calls t311 t313 t314 t315 t316 t317 t318 t319 t320 t321 t322 _ A13.out).mono ?_); rintro e w17 ⟨rfl, hb⟩; (try clear A13); have n0_ := Aside0.mk (blk_below (g := gb309) (o := .cells #[.int .i64 a0_0, .int .i64 a0_1, .int .u32 a0_2, .int .u32 a0_3, .int .i64 a0_4, .int .i64 a0_5, .int .i64 a0_6, .string a0_7] 24 (0, 0)) (by (with_reducible repeat (first | refine blk_drewN ?_ _ | refine blk_drew ?_ | refine blk_alloc ?_ _)); exact BK309.out) hb); have n1_ := Aside0.mk (below_step (by repeat (first | (with_reducible first | exact HB.out | apply below_alloc | apply pw_below_drewN | apply below_drew1 | refine below_set ?_ GE309.out) | exact HB.out)) hb); clear BK309; clear HB; have BK309 := n0_; have HB := n1_; clear n0_ n1_; (try clear hb); (try clear hb2); (try clear hk); (try clear hi)) | ((with_reducible refine gate_dst (N := 10) rfl ?_); (try (refine gate_guard (by rfl) ?_; dsimp only)); refine box_event ?hg (N := 10) ?hd (cs := #[.int .i64 0, .int .i64 0, .int .u32 0, .int .u32 0, .int .i64 0, .int .i64 0, .int .i64 0, .string (⟨#[]⟩ : ByteArray)]) (t := 24) ?hr ?_; (case hd => rfl); (case hg => rfl); (case hr => first | (go_simp; done) | (go_simp; rfl)); intro gb323 hg w18 hbox hb; have n0_ := Aside0.mk (blk_below (g := gb309) (o := .cells #[.int .i64 a0_0, .int .i64 a0_1, .int .u32 a0_2, .int .u32 a0_3, .int .i64 a0_4, .int .i64 a0_5, .int .i64 a0_6, .string a0_7] 24 (0, 0)) (by (with_reducible repeat (first | refine blk_drewN ?_ _ | refine blk_drew ?_ | refine blk_alloc ?_ _)); exact BK309.out) hb); have n1_ := Aside0.mk (below_step (by repeat (first | (with_reducible first | exact HB.out | apply below_alloc | apply pw_below_drewN | apply below_drew1 | refine below_set ?_ GE309.out) | exact HB.out)) hb); have n2_ := Aside0.mk (hbox); have n3_ := Aside0.mk ((by rw [hg]; exact (below_size (by repeat (first | (with_reducible first | exact HB.out | apply below_alloc | apply pw_below_drewN | apply below_drew1 | refine below_set ?_ GE309.out) | exact HB.out))) : w.heap.size ≤ gb323)); have n4_ := Aside0.mk ((by rw [hg]; exact (below_size (by repeat (first | (with_reducible first | exact HB.out | apply below_alloc | apply pw_below_drewN | apply below_drew1 | refine below_set ?_ GE309.out) | exact HB.out))) : w.heap.size ≤ gb323)); have n5_ := Aside0.mk ((by rw [hg]; exact Nat.ne_of_lt (blk_lt (g := gb309) (o := .cells #[.int .i64 a0_0, .int .i64 a0_1, .int .u32 a0_2, .int .u32 a0_3, .int .i64 a0_4, .int .i64 a0_5, .int .i64 a0_6, .string a0_7] 24 (0, 0)) (by (with_reducible repeat (first | refine blk_drewN ?_ _ | refine blk_drew ?_ | refine blk_alloc ?_ _)); exact BK309.out)) : gb309 ≠ gb323)); have n6_ := Aside0.mk ((by rw [hg]; exact Nat.ne_of_gt (blk_lt (g := gb309) (o := .cells #[.int .i64 a0_0, .int .i64 a0_1, .int .u32 a0_2, .int .u32 a0_3, .int .i64 a0_4, .int .i64 a0_5, .int .i64 a0_6, .string a0_7] 24 (0, 0)) (by (with_reducible repeat (first | refine blk_drewN ?_ _ | refine blk_drew ?_ | refine blk_alloc ?_ _)); exact BK309.out)) : gb323 ≠ gb309)); clear BK309; clear HB; have BK309 := n0_; have HB := n1_; have BK323 := n2_; have GW323 := n3_; have GE323 := n4_; have NB309_323 := n5_; have NB323_309 := n6_; clear n0_ n1_ n2_ n3_ n4_ n5_ n6_; clear hb hbox hg; have hnb19 := NB323_309.out; have hnc19 := NB309_323.out; have hcz20_0 : w18.cell? ⟨gb323, 0, none⟩ = some (.int .i64 0) := (blk_cell BK323.out 0).trans rfl; have hcz20_1 : w18.cell? ⟨gb323, 1, none⟩ = some (.int .i64 0) := (blk_cell BK323.out 1).trans rfl; have hcz20_2 : w18.cell? ⟨gb323, 2, none⟩ = some (.int .u32 0) := (blk_cell BK323.out 2).trans rfl; have hcz20_3 : w18.cell? ⟨gb323, 3, none⟩ = some (.int .u32 0) := (blk_cell BK323.out 3).trans rfl; have hcz20_4 : w18.cell? ⟨gb323, 4, none⟩ = some (.int .i64 0) := (blk_cell BK323.out 4).trans rfl; have hcz20_5 : w18.cell? ⟨gb323, 5, none⟩ = some (.int .i64 0) := (blk_cell BK323.out 5).trans rfl; have hcz20_6 : w18.cell? ⟨gb323, 6, none⟩ = some (.int .i64 0) := (blk_cell BK323.out 6).trans rfl; have hcz20_7 : w18.cell? ⟨gb323, 7, none⟩ = some (.string (⟨#[]⟩ : ByteArray)) := (blk_cell BK323.out 7).trans rfl; have hfz20_0 := blk_frozen BK323.out 0; have hfz20_1 := blk_frozen BK323.out 1; have hfz20_2 := blk_frozen BK323.out 2; have hfz20_3 := blk_frozen BK323.out 3; have hfz20_4 := blk_frozen BK323.out 4; have hfz20_5 := blk_frozen BK323.out 5; have hfz20_6 := blk_frozen BK323.out 6; have hfz20_7 := blk_frozen BK323.out 7; have hcz21_0 : w18.cell? ⟨gb309, 0, none⟩ = some (.int .i64 a0_0) := (blk_cell BK309.out 0).trans rfl; have hcz21_1 : w18.cell? ⟨gb309, 1, none⟩ = some (.int .i64 a0_1) := (blk_cell BK309.out 1).trans rfl; have hcz21_2 : w18.cell? ⟨gb309, 2, none⟩ = some (.int .u32 a0_2) := (blk_cell BK309.out 2).trans rfl; have hcz21_3 : w18.cell? ⟨gb309, 3, none⟩ = some (.int .u32 a0_3) := (blk_cell BK309.out 3).trans rfl; have hcz21_4 : w18.cell? ⟨gb309, 4, none⟩ = some (.int .i64 a0_4) := (blk_cell BK309.out 4).trans rfl; have hcz21_5 : w18.cell? ⟨gb309, 5, none⟩ = some (.int .i64 a0_5) := (blk_cell BK309.out 5).trans rfl; have hcz21_6 : w18.cell? ⟨gb309, 6, none⟩ = some (.int .i64 a0_6) := (blk_cell BK309.out 6).trans rfl; have hcz21_7 : w18.cell? ⟨gb309, 7, none⟩ = some (.string a0_7) := (blk_cell BK309.out 7).trans rfl; have hfz21_0 := blk_frozen BK309.out 0; have hfz21_1 := blk_frozen BK309.out 1; have hfz21_2 := blk_frozen BK309.out 2; have hfz21_3 := blk_frozen BK309.out 3; have hfz21_4 := blk_frozen BK309.out 4; have hfz21_5 := blk_frozen BK309.out 5; have hfz21_6 := blk_frozen BK309.out 6; have hfz21_7 := blk_frozen BK309.out 7))
              repeat (go_quiet (first | (go_at_call 20; (with_reducible refine (tcp_Parse.calls t311 t313 t314 t315 t316 t317 t318 t319 t320 t321 t322 _ A13.out).mono ?_); rintro e w17 ⟨rfl, hb⟩; (try clear A13); have n0_ := Aside0.mk (blk_below (g := gb309) (o := .cells #[.int .i64 a0_0, .int .i64 a0_1, .int .u32 a0_2, .int .u32 a0_3, .int .i64 a0_4, .int .i64 a0_5, .int .i64 a0_6, .string a0_7] 24 (0, 0)) (by (with_reducible repeat (first | refine blk_drewN ?_ _ | refine blk_drew ?_ | refine blk_alloc ?_ _)); exact BK309.out) hb); have n1_ := Aside0.mk (below_step (by repeat (first | (with_reducible first | exact HB.out | apply below_alloc | apply pw_below_drewN | apply below_drew1 | refine below_set ?_ GE309.out) | exact HB.out)) hb); clear BK309; clear HB; have BK309 := n0_; have HB := n1_; clear n0_ n1_; (try clear hb); (try clear hb2); (try clear hk); (try clear hi)) | ((with_reducible refine gate_dst (N := 10) rfl ?_); (try (refine gate_guard (by rfl) ?_; dsimp only)); refine box_event ?hg (N := 10) ?hd (cs := #[.int .i64 0, .int .i64 0, .int .u32 0, .int .u32 0, .int .i64 0, .int .i64 0, .int .i64 0, .string (⟨#[]⟩ : ByteArray)]) (t := 24) ?hr ?_; (case hd => rfl); (case hg => rfl); (case hr => first | (go_simp; done) | (go_simp; rfl)); intro gb323 hg w18 hbox hb; have n0_ := Aside0.mk (blk_below (g := gb309) (o := .cells #[.int .i64 a0_0, .int .i64 a0_1, .int .u32 a0_2, .int .u32 a0_3, .int .i64 a0_4, .int .i64 a0_5, .int .i64 a0_6, .string a0_7] 24 (0, 0)) (by (with_reducible repeat (first | refine blk_drewN ?_ _ | refine blk_drew ?_ | refine blk_alloc ?_ _)); exact BK309.out) hb); have n1_ := Aside0.mk (below_step (by repeat (first | (with_reducible first | exact HB.out | apply below_alloc | apply pw_below_drewN | apply below_drew1 | refine below_set ?_ GE309.out) | exact HB.out)) hb); have n2_ := Aside0.mk (hbox); have n3_ := Aside0.mk ((by rw [hg]; exact (below_size (by repeat (first | (with_reducible first | exact HB.out | apply below_alloc | apply pw_below_drewN | apply below_drew1 | refine below_set ?_ GE309.out) | exact HB.out))) : w.heap.size ≤ gb323)); have n4_ := Aside0.mk ((by rw [hg]; exact (below_size (by repeat (first | (with_reducible first | exact HB.out | apply below_alloc | apply pw_below_drewN | apply below_drew1 | refine below_set ?_ GE309.out) | exact HB.out))) : w.heap.size ≤ gb323)); have n5_ := Aside0.mk ((by rw [hg]; exact Nat.ne_of_lt (blk_lt (g := gb309) (o := .cells #[.int .i64 a0_0, .int .i64 a0_1, .int .u32 a0_2, .int .u32 a0_3, .int .i64 a0_4, .int .i64 a0_5, .int .i64 a0_6, .string a0_7] 24 (0, 0)) (by (with_reducible repeat (first | refine blk_drewN ?_ _ | refine blk_drew ?_ | refine blk_alloc ?_ _)); exact BK309.out)) : gb309 ≠ gb323)); have n6_ := Aside0.mk ((by rw [hg]; exact Nat.ne_of_gt (blk_lt (g := gb309) (o := .cells #[.int .i64 a0_0, .int .i64 a0_1, .int .u32 a0_2, .int .u32 a0_3, .int .i64 a0_4, .int .i64 a0_5, .int .i64 a0_6, .string a0_7] 24 (0, 0)) (by (with_reducible repeat (first | refine blk_drewN ?_ _ | refine blk_drew ?_ | refine blk_alloc ?_ _)); exact BK309.out)) : gb323 ≠ gb309)); clear BK309; clear HB; have BK309 := n0_; have HB := n1_; have BK323 := n2_; have GW323 := n3_; have GE323 := n4_; have NB309_323 := n5_; have NB323_309 := n6_; clear n0_ n1_ n2_ n3_ n4_ n5_ n6_; clear hb hbox hg; have hnb19 := NB323_309.out; have hnc19 := NB309_323.out; have hcz20_0 : w18.cell? ⟨gb323, 0, none⟩ = some (.int .i64 0) := (blk_cell BK323.out 0).trans rfl; have hcz20_1 : w18.cell? ⟨gb323, 1, none⟩ = some (.int .i64 0) := (blk_cell BK323.out 1).trans rfl; have hcz20_2 : w18.cell? ⟨gb323, 2, none⟩ = some (.int .u32 0) := (blk_cell BK323.out 2).trans rfl; have hcz20_3 : w18.cell? ⟨gb323, 3, none⟩ = some (.int .u32 0) := (blk_cell BK323.out 3).trans rfl; have hcz20_4 : w18.cell? ⟨gb323, 4, none⟩ = some (.int .i64 0) := (blk_cell BK323.out 4).trans rfl; have hcz20_5 : w18.cell? ⟨gb323, 5, none⟩ = some (.int .i64 0) := (blk_cell BK323.out 5).trans rfl; have hcz20_6 : w18.cell? ⟨gb323, 6, none⟩ = some (.int .i64 0) := (blk_cell BK323.out 6).trans rfl; have hcz20_7 : w18.cell? ⟨gb323, 7, none⟩ = some (.string (⟨#[]⟩ : ByteArray)) := (blk_cell BK323.out 7).trans rfl; have hfz20_0 := blk_frozen BK323.out 0; have hfz20_1 := blk_frozen BK323.out 1; have hfz20_2 := blk_frozen BK323.out 2; have hfz20_3 := blk_frozen BK323.out 3; have hfz20_4 := blk_frozen BK323.out 4; have hfz20_5 := blk_frozen BK323.out 5; have hfz20_6 := blk_frozen BK323.out 6; have hfz20_7 := blk_frozen BK323.out 7; have hcz21_0 : w18.cell? ⟨gb309, 0, none⟩ = some (.int .i64 a0_0) := (blk_cell BK309.out 0).trans rfl; have hcz21_1 : w18.cell? ⟨gb309, 1, none⟩ = some (.int .i64 a0_1) := (blk_cell BK309.out 1).trans rfl; have hcz21_2 : w18.cell? ⟨gb309, 2, none⟩ = some (.int .u32 a0_2) := (blk_cell BK309.out 2).trans rfl; have hcz21_3 : w18.cell? ⟨gb309, 3, none⟩ = some (.int .u32 a0_3) := (blk_cell BK309.out 3).trans rfl; have hcz21_4 : w18.cell? ⟨gb309, 4, none⟩ = some (.int .i64 a0_4) := (blk_cell BK309.out 4).trans rfl; have hcz21_5 : w18.cell? ⟨gb309, 5, none⟩ = some (.int .i64 a0_5) := (blk_cell BK309.out 5).trans rfl; have hcz21_6 : w18.cell? ⟨gb309, 6, none⟩ = some (.int .i64 a0_6) := (blk_cell BK309.out 6).trans rfl; have hcz21_7 : w18.cell? ⟨gb309, 7, none⟩ = some (.string a0_7) := (blk_cell BK309.out 7).trans rfl; have hfz21_0 := blk_frozen BK309.out 0; have hfz21_1 := blk_frozen BK309.out 1; have hfz21_2 := blk_frozen BK309.out 2; have hfz21_3 := blk_frozen BK309.out 3; have hfz21_4 := blk_frozen BK309.out 4; have hfz21_5 := blk_frozen BK309.out 5; have hfz21_6 := blk_frozen BK309.out 6; have hfz21_7 := blk_frozen BK309.out 7)); try go_wp2_with (first | (go_at_call 20; (with_reducible refine (tcp_Parse.calls t311 t313 t314 t315 t316 t317 t318 t319 t320 t321 t322 _ A13.out).mono ?_); rintro e w17 ⟨rfl, hb⟩; (try clear A13); have n0_ := Aside0.mk (blk_below (g := gb309) (o := .cells #[.int .i64 a0_0, .int .i64 a0_1, .int .u32 a0_2, .int .u32 a0_3, .int .i64 a0_4, .int .i64 a0_5, .int .i64 a0_6, .string a0_7] 24 (0, 0)) (by (with_reducible repeat (first | refine blk_drewN ?_ _ | refine blk_drew ?_ | refine blk_alloc ?_ _)); exact BK309.out) hb); have n1_ := Aside0.mk (below_step (by repeat (first | (with_reducible first | exact HB.out | apply below_alloc | apply pw_below_drewN | apply below_drew1 | refine below_set ?_ GE309.out) | exact HB.out)) hb); clear BK309; clear HB; have BK309 := n0_; have HB := n1_; clear n0_ n1_; (try clear hb); (try clear hb2); (try clear hk); (try clear hi)) | ((with_reducible refine gate_dst (N := 10) rfl ?_); (try (refine gate_guard (by rfl) ?_; dsimp only)); refine box_event ?hg (N := 10) ?hd (cs := #[.int .i64 0, .int .i64 0, .int .u32 0, .int .u32 0, .int .i64 0, .int .i64 0, .int .i64 0, .string (⟨#[]⟩ : ByteArray)]) (t := 24) ?hr ?_; (case hd => rfl); (case hg => rfl); (case hr => first | (go_simp; done) | (go_simp; rfl)); intro gb323 hg w18 hbox hb; have n0_ := Aside0.mk (blk_below (g := gb309) (o := .cells #[.int .i64 a0_0, .int .i64 a0_1, .int .u32 a0_2, .int .u32 a0_3, .int .i64 a0_4, .int .i64 a0_5, .int .i64 a0_6, .string a0_7] 24 (0, 0)) (by (with_reducible repeat (first | refine blk_drewN ?_ _ | refine blk_drew ?_ | refine blk_alloc ?_ _)); exact BK309.out) hb); have n1_ := Aside0.mk (below_step (by repeat (first | (with_reducible first | exact HB.out | apply below_alloc | apply pw_below_drewN | apply below_drew1 | refine below_set ?_ GE309.out) | exact HB.out)) hb); have n2_ := Aside0.mk (hbox); have n3_ := Aside0.mk ((by rw [hg]; exact (below_size (by repeat (first | (with_reducible first | exact HB.out | apply below_alloc | apply pw_below_drewN | apply below_drew1 | refine below_set ?_ GE309.out) | exact HB.out))) : w.heap.size ≤ gb323)); have n4_ := Aside0.mk ((by rw [hg]; exact (below_size (by repeat (first | (with_reducible first | exact HB.out | apply below_alloc | apply pw_below_drewN | apply below_drew1 | refine below_set ?_ GE309.out) | exact HB.out))) : w.heap.size ≤ gb323)); have n5_ := Aside0.mk ((by rw [hg]; exact Nat.ne_of_lt (blk_lt (g := gb309) (o := .cells #[.int .i64 a0_0, .int .i64 a0_1, .int .u32 a0_2, .int .u32 a0_3, .int .i64 a0_4, .int .i64 a0_5, .int .i64 a0_6, .string a0_7] 24 (0, 0)) (by (with_reducible repeat (first | refine blk_drewN ?_ _ | refine blk_drew ?_ | refine blk_alloc ?_ _)); exact BK309.out)) : gb309 ≠ gb323)); have n6_ := Aside0.mk ((by rw [hg]; exact Nat.ne_of_gt (blk_lt (g := gb309) (o := .cells #[.int .i64 a0_0, .int .i64 a0_1, .int .u32 a0_2, .int .u32 a0_3, .int .i64 a0_4, .int .i64 a0_5, .int .i64 a0_6, .string a0_7] 24 (0, 0)) (by (with_reducible repeat (first | refine blk_drewN ?_ _ | refine blk_drew ?_ | refine blk_alloc ?_ _)); exact BK309.out)) : gb323 ≠ gb309)); clear BK309; clear HB; have BK309 := n0_; have HB := n1_; have BK323 := n2_; have GW323 := n3_; have GE323 := n4_; have NB309_323 := n5_; have NB323_309 := n6_; clear n0_ n1_ n2_ n3_ n4_ n5_ n6_; clear hb hbox hg; have hnb19 := NB323_309.out; have hnc19 := NB309_323.out; have hcz20_0 : w18.cell? ⟨gb323, 0, none⟩ = some (.int .i64 0) := (blk_cell BK323.out 0).trans rfl; have hcz20_1 : w18.cell? ⟨gb323, 1, none⟩ = some (.int .i64 0) := (blk_cell BK323.out 1).trans rfl; have hcz20_2 : w18.cell? ⟨gb323, 2, none⟩ = some (.int .u32 0) := (blk_cell BK323.out 2).trans rfl; have hcz20_3 : w18.cell? ⟨gb323, 3, none⟩ = some (.int .u32 0) := (blk_cell BK323.out 3).trans rfl; have hcz20_4 : w18.cell? ⟨gb323, 4, none⟩ = some (.int .i64 0) := (blk_cell BK323.out 4).trans rfl; have hcz20_5 : w18.cell? ⟨gb323, 5, none⟩ = some (.int .i64 0) := (blk_cell BK323.out 5).trans rfl; have hcz20_6 : w18.cell? ⟨gb323, 6, none⟩ = some (.int .i64 0) := (blk_cell BK323.out 6).trans rfl; have hcz20_7 : w18.cell? ⟨gb323, 7, none⟩ = some (.string (⟨#[]⟩ : ByteArray)) := (blk_cell BK323.out 7).trans rfl; have hfz20_0 := blk_frozen BK323.out 0; have hfz20_1 := blk_frozen BK323.out 1; have hfz20_2 := blk_frozen BK323.out 2; have hfz20_3 := blk_frozen BK323.out 3; have hfz20_4 := blk_frozen BK323.out 4; have hfz20_5 := blk_frozen BK323.out 5; have hfz20_6 := blk_frozen BK323.out 6; have hfz20_7 := blk_frozen BK323.out 7; have hcz21_0 : w18.cell? ⟨gb309, 0, none⟩ = some (.int .i64 a0_0) := (blk_cell BK309.out 0).trans rfl; have hcz21_1 : w18.cell? ⟨gb309, 1, none⟩ = some (.int .i64 a0_1) := (blk_cell BK309.out 1).trans rfl; have hcz21_2 : w18.cell? ⟨gb309, 2, none⟩ = some (.int .u32 a0_2) := (blk_cell BK309.out 2).trans rfl; have hcz21_3 : w18.cell? ⟨gb309, 3, none⟩ = some (.int .u32 a0_3) := (blk_cell BK309.out 3).trans rfl; have hcz21_4 : w18.cell? ⟨gb309, 4, none⟩ = some (.int .i64 a0_4) := (blk_cell BK309.out 4).trans rfl; have hcz21_5 : w18.cell? ⟨gb309, 5, none⟩ = some (.int .i64 a0_5) := (blk_cell BK309.out 5).trans rfl; have hcz21_6 : w18.cell? ⟨gb309, 6, none⟩ = some (.int .i64 a0_6) := (blk_cell BK309.out 6).trans rfl; have hcz21_7 : w18.cell? ⟨gb309, 7, none⟩ = some (.string a0_7) := (blk_cell BK309.out 7).trans rfl; have hfz21_0 := blk_frozen BK309.out 0; have hfz21_1 := blk_frozen BK309.out 1; have hfz21_2 := blk_frozen BK309.out 2; have hfz21_3 := blk_frozen BK309.out 3; have hfz21_4 := blk_frozen BK309.out 4; have hfz21_5 := blk_frozen BK309.out 5; have hfz21_6 := blk_frozen BK309.out 6; have hfz21_7 := blk_frozen BK309.out 7)))
              go_meet
              case rel => exact ⟨_, H', ⟨by first | omega | exact Nat.le_refl _⟩, ⟨by (with_reducible repeat (first | refine blk_drewN ?_ _ | refine blk_drew ?_ | refine blk_alloc ?_ _)); refine blk_far ?_ NB309_323.out _; (with_reducible repeat (first | refine blk_drewN ?_ _ | refine blk_drew ?_ | refine blk_alloc ?_ _)); refine blk_far ?_ NB309_323.out _; (with_reducible repeat (first | refine blk_drewN ?_ _ | refine blk_drew ?_ | refine blk_alloc ?_ _)); refine blk_far ?_ NB309_323.out _; (with_reducible repeat (first | refine blk_drewN ?_ _ | refine blk_drew ?_ | refine blk_alloc ?_ _)); refine blk_far ?_ NB309_323.out _; (with_reducible repeat (first | refine blk_drewN ?_ _ | refine blk_drew ?_ | refine blk_alloc ?_ _)); refine blk_far ?_ NB309_323.out _; (with_reducible repeat (first | refine blk_drewN ?_ _ | refine blk_drew ?_ | refine blk_alloc ?_ _)); refine blk_far ?_ NB309_323.out _; (with_reducible repeat (first | refine blk_drewN ?_ _ | refine blk_drew ?_ | refine blk_alloc ?_ _)); refine blk_far ?_ NB309_323.out _; (with_reducible repeat (first | refine blk_drewN ?_ _ | refine blk_drew ?_ | refine blk_alloc ?_ _)); refine blk_far ?_ NB309_323.out _; (with_reducible repeat (first | refine blk_drewN ?_ _ | refine blk_drew ?_ | refine blk_alloc ?_ _)); exact BK309.out⟩, ⟨by repeat (first | (with_reducible first | exact HB.out | apply below_alloc | apply pw_below_drewN | apply below_drew1 | refine below_set ?_ GE309.out | refine below_set ?_ GE323.out) | exact HB.out)⟩⟩
            · rw [if_neg c16] at H
              have c16b0 : (t322 == 0) = false := beq_eq_false_iff_ne.mpr c16
              have c16b1 : (t322 != 0) = true := bne_iff_ne.mpr c16
              exact absurd ((Option.some.inj H).trans hr_) (by decide)
          · rw [if_neg c15] at H
            have c15b0 : (t321.toList == a1.toList) = false := beq_eq_false_iff_ne.mpr c15
            have c15b1 : (t321.toList != a1.toList) = true := bne_iff_ne.mpr c15
            exact absurd ((Option.some.inj H).trans hr_) (by decide)
      · rw [if_neg c12] at H
        have c12b0 : (t312 == 0) = false := beq_eq_false_iff_ne.mpr c12
        have c12b1 : (t312 != 0) = true := bne_iff_ne.mpr c12
        (first | rw [c12b0] | (simp only [i64_w, i32_w]; rw [c12b0]) | skip)
        have H' := Aside0.mk H
        clear H
        go_wp2
        repeat (go_quiet (fail); try go_wp2)
        go_meet
        case rel => exact ⟨_, H', ⟨by first | omega | exact Nat.le_refl _⟩, ⟨by (with_reducible repeat (first | refine blk_drewN ?_ _ | refine blk_drew ?_ | refine blk_alloc ?_ _)); exact BK309.out⟩, ⟨by repeat (first | (with_reducible first | exact HB.out | apply below_alloc | apply pw_below_drewN | apply below_drew1 | refine below_set ?_ GE309.out) | exact HB.out)⟩⟩
    case rest =>
      clear HC7
      try clear c1
      try clear p2
      try clear c5
      try clear c12
      try clear c12b0
      try clear c12b1
      try clear c14
      try clear c14b0
      try clear c15
      try clear c15b0
      try clear c15b1
      try clear c16
      try clear c16b0
      try clear c16b1
      try clear c19
      try clear hcz10_0
      try clear hcz10_1
      try clear hcz10_2
      try clear hcz10_3
      try clear hcz10_4
      try clear hcz10_5
      try clear hcz10_6
      try clear hcz10_7
      try clear hcz20_0
      try clear hcz20_1
      try clear hcz20_2
      try clear hcz20_3
      try clear hcz20_4
      try clear hcz20_5
      try clear hcz20_6
      try clear hcz20_7
      try clear hcz21_0
      try clear hcz21_1
      try clear hcz21_2
      try clear hcz21_3
      try clear hcz21_4
      try clear hcz21_5
      try clear hcz21_6
      try clear hcz21_7
      try clear hfz10_0
      try clear hfz10_1
      try clear hfz10_2
      try clear hfz10_3
      try clear hfz10_4
      try clear hfz10_5
      try clear hfz10_6
      try clear hfz10_7
      try clear hfz20_0
      try clear hfz20_1
      try clear hfz20_2
      try clear hfz20_3
      try clear hfz20_4
      try clear hfz20_5
      try clear hfz20_6
      try clear hfz20_7
      try clear hfz21_0
      try clear hfz21_1
      try clear hfz21_2
      try clear hfz21_3
      try clear hfz21_4
      try clear hfz21_5
      try clear hfz21_6
      try clear hfz21_7
      obtain ⟨kq, HA, HJ6, BK309, HB⟩ := hcut
      cases kq with
      | zero => exact absurd HA.out (by simp [weighbridgelaw05_TcpBack.j0])
      | succ kj6 =>
        have H := HA.out
        clear HA
        simp only [weighbridgelaw05_TcpBack.j0] at H
        replace H := Option.bind_eq_some_iff.mp H
        obtain ⟨⟨t324, t325, t326, t327, t328, t329, t330, t331, t332, t333⟩, A220, H⟩ := H
        replace H : ((tcp_Build.f t324 t325 t326 t327 t328 t329 t330 t331 t332).bind fun bt335 => (if t333 = 0 then (weighbridgelaw05_TcpBack.j1 kj6 a2 true t332 t333 bt335.1 bt335.2 (decide ((a2.size : Int) > 1500)) t324 t325 t326 t327 t328 t329 t330 t331) else (weighbridgelaw05_TcpBack.j1 kj6 a2 true t332 t333 bt335.1 bt335.2 true t324 t325 t326 t327 t328 t329 t330 t331))) = some r := H
        have A22 := Aside0.mk A220
        clear A220
        replace H := Option.bind_eq_some_iff.mp H
        obtain ⟨⟨t335, t336⟩, A230, H⟩ := H
        replace H : (if t333 = 0 then (weighbridgelaw05_TcpBack.j1 kj6 a2 true t332 t333 t335 t336 (decide ((a2.size : Int) > 1500)) t324 t325 t326 t327 t328 t329 t330 t331) else (weighbridgelaw05_TcpBack.j1 kj6 a2 true t332 t333 t335 t336 true t324 t325 t326 t327 t328 t329 t330 t331)) = some r := H
        have A23 := Aside0.mk A230
        clear A230
        have HC24 := Aside0.mk H
        clear H
        go_upto_region 11 with (first | (go_at_call 20; (with_reducible refine (tcp_Parse.calls a2 t324 t325 t326 t327 t328 t329 t330 t331 t332 t333 _ A22.out).mono ?_); rintro e w25 ⟨rfl, hb⟩; have n0_ := Aside0.mk (blk_below (g := gb309) (o := .cells #[.int .i64 a0_0, .int .i64 a0_1, .int .u32 a0_2, .int .u32 a0_3, .int .i64 a0_4, .int .i64 a0_5, .int .i64 a0_6, .string a0_7] 24 (0, 0)) (by (with_reducible repeat (first | refine blk_drewN ?_ _ | refine blk_drew ?_ | refine blk_alloc ?_ _)); exact BK309.out) hb); have n1_ := Aside0.mk (below_step (by repeat (first | (with_reducible first | exact HB.out | apply below_alloc | apply pw_below_drewN | apply below_drew1 | refine below_set ?_ GE309.out) | exact HB.out)) hb); clear BK309; clear HB; have BK309 := n0_; have HB := n1_; clear n0_ n1_; (try clear hb); (try clear hb2); (try clear hk); (try clear hi)) | ((with_reducible refine gate_dst (N := 13) rfl ?_); (try (refine gate_guard (by rfl) ?_; dsimp only)); refine box_event ?hg (N := 13) ?hd (cs := #[.int .i64 0, .int .i64 0, .int .u32 0, .int .u32 0, .int .i64 0, .int .i64 0, .int .i64 0, .string (⟨#[]⟩ : ByteArray)]) (t := 24) ?hr ?_; (case hd => rfl); (case hg => rfl); (case hr => first | (go_simp; done) | (go_simp; rfl)); intro gb334 hg w26 hbox hb; have n0_ := Aside0.mk (blk_below (g := gb309) (o := .cells #[.int .i64 a0_0, .int .i64 a0_1, .int .u32 a0_2, .int .u32 a0_3, .int .i64 a0_4, .int .i64 a0_5, .int .i64 a0_6, .string a0_7] 24 (0, 0)) (by (with_reducible repeat (first | refine blk_drewN ?_ _ | refine blk_drew ?_ | refine blk_alloc ?_ _)); exact BK309.out) hb); have n1_ := Aside0.mk (below_step (by repeat (first | (with_reducible first | exact HB.out | apply below_alloc | apply pw_below_drewN | apply below_drew1 | refine below_set ?_ GE309.out) | exact HB.out)) hb); have n2_ := Aside0.mk (hbox); have n3_ := Aside0.mk ((by rw [hg]; exact (below_size (by repeat (first | (with_reducible first | exact HB.out | apply below_alloc | apply pw_below_drewN | apply below_drew1 | refine below_set ?_ GE309.out) | exact HB.out))) : w.heap.size ≤ gb334)); have n4_ := Aside0.mk ((by rw [hg]; exact (below_size (by repeat (first | (with_reducible first | exact HB.out | apply below_alloc | apply pw_below_drewN | apply below_drew1 | refine below_set ?_ GE309.out) | exact HB.out))) : w.heap.size ≤ gb334)); have n5_ := Aside0.mk ((by rw [hg]; exact Nat.ne_of_lt (blk_lt (g := gb309) (o := .cells #[.int .i64 a0_0, .int .i64 a0_1, .int .u32 a0_2, .int .u32 a0_3, .int .i64 a0_4, .int .i64 a0_5, .int .i64 a0_6, .string a0_7] 24 (0, 0)) (by (with_reducible repeat (first | refine blk_drewN ?_ _ | refine blk_drew ?_ | refine blk_alloc ?_ _)); exact BK309.out)) : gb309 ≠ gb334)); have n6_ := Aside0.mk ((by rw [hg]; exact Nat.ne_of_gt (blk_lt (g := gb309) (o := .cells #[.int .i64 a0_0, .int .i64 a0_1, .int .u32 a0_2, .int .u32 a0_3, .int .i64 a0_4, .int .i64 a0_5, .int .i64 a0_6, .string a0_7] 24 (0, 0)) (by (with_reducible repeat (first | refine blk_drewN ?_ _ | refine blk_drew ?_ | refine blk_alloc ?_ _)); exact BK309.out)) : gb334 ≠ gb309)); clear BK309; clear HB; have BK309 := n0_; have HB := n1_; have BK334 := n2_; have GW334 := n3_; have GE334 := n4_; have NB309_334 := n5_; have NB334_309 := n6_; clear n0_ n1_ n2_ n3_ n4_ n5_ n6_; clear hb hbox hg; have hnb27 := NB334_309.out; have hnc27 := NB309_334.out; have hcz28_0 : w26.cell? ⟨gb334, 0, none⟩ = some (.int .i64 0) := (blk_cell BK334.out 0).trans rfl; have hcz28_1 : w26.cell? ⟨gb334, 1, none⟩ = some (.int .i64 0) := (blk_cell BK334.out 1).trans rfl; have hcz28_2 : w26.cell? ⟨gb334, 2, none⟩ = some (.int .u32 0) := (blk_cell BK334.out 2).trans rfl; have hcz28_3 : w26.cell? ⟨gb334, 3, none⟩ = some (.int .u32 0) := (blk_cell BK334.out 3).trans rfl; have hcz28_4 : w26.cell? ⟨gb334, 4, none⟩ = some (.int .i64 0) := (blk_cell BK334.out 4).trans rfl; have hcz28_5 : w26.cell? ⟨gb334, 5, none⟩ = some (.int .i64 0) := (blk_cell BK334.out 5).trans rfl; have hcz28_6 : w26.cell? ⟨gb334, 6, none⟩ = some (.int .i64 0) := (blk_cell BK334.out 6).trans rfl; have hcz28_7 : w26.cell? ⟨gb334, 7, none⟩ = some (.string (⟨#[]⟩ : ByteArray)) := (blk_cell BK334.out 7).trans rfl; have hfz28_0 := blk_frozen BK334.out 0; have hfz28_1 := blk_frozen BK334.out 1; have hfz28_2 := blk_frozen BK334.out 2; have hfz28_3 := blk_frozen BK334.out 3; have hfz28_4 := blk_frozen BK334.out 4; have hfz28_5 := blk_frozen BK334.out 5; have hfz28_6 := blk_frozen BK334.out 6; have hfz28_7 := blk_frozen BK334.out 7) | (go_at_call 11; (with_reducible refine (tcp_Build.calls t324 t325 t326 t327 t328 t329 t330 t331 t332 t335 t336 _ A23.out).mono ?_); rintro e w29 ⟨rfl, hb⟩; have n0_ := Aside0.mk (blk_below (g := gb309) (o := .cells #[.int .i64 a0_0, .int .i64 a0_1, .int .u32 a0_2, .int .u32 a0_3, .int .i64 a0_4, .int .i64 a0_5, .int .i64 a0_6, .string a0_7] 24 (0, 0)) (by (with_reducible repeat (first | refine blk_drewN ?_ _ | refine blk_drew ?_ | refine blk_alloc ?_ _)); refine blk_far ?_ NB309_334.out _; (with_reducible repeat (first | refine blk_drewN ?_ _ | refine blk_drew ?_ | refine blk_alloc ?_ _)); refine blk_far ?_ NB309_334.out _; (with_reducible repeat (first | refine blk_drewN ?_ _ | refine blk_drew ?_ | refine blk_alloc ?_ _)); refine blk_far ?_ NB309_334.out _; (with_reducible repeat (first | refine blk_drewN ?_ _ | refine blk_drew ?_ | refine blk_alloc ?_ _)); refine blk_far ?_ NB309_334.out _; (with_reducible repeat (first | refine blk_drewN ?_ _ | refine blk_drew ?_ | refine blk_alloc ?_ _)); refine blk_far ?_ NB309_334.out _; (with_reducible repeat (first | refine blk_drewN ?_ _ | refine blk_drew ?_ | refine blk_alloc ?_ _)); refine blk_far ?_ NB309_334.out _; (with_reducible repeat (first | refine blk_drewN ?_ _ | refine blk_drew ?_ | refine blk_alloc ?_ _)); refine blk_far ?_ NB309_334.out _; (with_reducible repeat (first | refine blk_drewN ?_ _ | refine blk_drew ?_ | refine blk_alloc ?_ _)); refine blk_far ?_ NB309_334.out _; (with_reducible repeat (first | refine blk_drewN ?_ _ | refine blk_drew ?_ | refine blk_alloc ?_ _)); exact BK309.out) hb); have n1_ := Aside0.mk (blk_below (g := gb334) (o := .cells #[.int .i64 t324, .int .i64 t325, .int .u32 t326, .int .u32 t327, .int .i64 t328, .int .i64 t329, .int .i64 t330, .string t331] 24 (0, 0)) (by (with_reducible repeat (first | refine blk_drewN ?_ _ | refine blk_drew ?_ | refine blk_alloc ?_ _)); refine blk_put (cs := #[.int .i64 t324, .int .i64 t325, .int .u32 t326, .int .u32 t327, .int .i64 t328, .int .i64 t329, .int .i64 t330, .string (⟨#[]⟩ : ByteArray)]) ?_ 7 _ rfl; (with_reducible repeat (first | refine blk_drewN ?_ _ | refine blk_drew ?_ | refine blk_alloc ?_ _)); refine blk_put (cs := #[.int .i64 t324, .int .i64 t325, .int .u32 t326, .int .u32 t327, .int .i64 t328, .int .i64 t329, .int .i64 0, .string (⟨#[]⟩ : ByteArray)]) ?_ 6 _ rfl; (with_reducible repeat (first | refine blk_drewN ?_ _ | refine blk_drew ?_ | refine blk_alloc ?_ _)); refine blk_put (cs := #[.int .i64 t324, .int .i64 t325, .int .u32 t326, .int .u32 t327, .int .i64 t328, .int .i64 0, .int .i64 0, .string (⟨#[]⟩ : ByteArray)]) ?_ 5 _ rfl; (with_reducible repeat (first | refine blk_drewN ?_ _ | refine blk_drew ?_ | refine blk_alloc ?_ _)); refine blk_put (cs := #[.int .i64 t324, .int .i64 t325, .int .u32 t326, .int .u32 t327, .int .i64 0, .int .i64 0, .int .i64 0, .string (⟨#[]⟩ : ByteArray)]) ?_ 4 _ rfl; (with_reducible repeat (first | refine blk_drewN ?_ _ | refine blk_drew ?_ | refine blk_alloc ?_ _)); refine blk_put (cs := #[.int .i64 t324, .int .i64 t325, .int .u32 t326, .int .u32 0, .int .i64 0, .int .i64 0, .int .i64 0, .string (⟨#[]⟩ : ByteArray)]) ?_ 3 _ rfl; (with_reducible repeat (first | refine blk_drewN ?_ _ | refine blk_drew ?_ | refine blk_alloc ?_ _)); refine blk_put (cs := #[.int .i64 t324, .int .i64 t325, .int .u32 0, .int .u32 0, .int .i64 0, .int .i64 0, .int .i64 0, .string (⟨#[]⟩ : ByteArray)]) ?_ 2 _ rfl; (with_reducible repeat (first | refine blk_drewN ?_ _ | refine blk_drew ?_ | refine blk_alloc ?_ _)); refine blk_put (cs := #[.int .i64 t324, .int .i64 0, .int .u32 0, .int .u32 0, .int .i64 0, .int .i64 0, .int .i64 0, .string (⟨#[]⟩ : ByteArray)]) ?_ 1 _ rfl; (with_reducible repeat (first | refine blk_drewN ?_ _ | refine blk_drew ?_ | refine blk_alloc ?_ _)); refine blk_put (cs := #[.int .i64 0, .int .i64 0, .int .u32 0, .int .u32 0, .int .i64 0, .int .i64 0, .int .i64 0, .string (⟨#[]⟩ : ByteArray)]) ?_ 0 _ rfl; (with_reducible repeat (first | refine blk_drewN ?_ _ | refine blk_drew ?_ | refine blk_alloc ?_ _)); exact BK334.out) hb); have n2_ := Aside0.mk (below_step (by repeat (first | (with_reducible first | exact HB.out | apply below_alloc | apply pw_below_drewN | apply below_drew1 | refine below_set ?_ GE309.out | refine below_set ?_ GE334.out) | exact HB.out)) hb); clear BK309; clear BK334; clear HB; have BK309 := n0_; have BK334 := n1_; have HB := n2_; clear n0_ n1_ n2_; (try clear hb); (try clear hb2); (try clear hk); (try clear hi)))
        repeat (go_quiet (first | (go_at_call 20; (with_reducible refine (tcp_Parse.calls a2 t324 t325 t326 t327 t328 t329 t330 t331 t332 t333 _ A22.out).mono ?_); rintro e w25 ⟨rfl, hb⟩; have n0_ := Aside0.mk (blk_below (g := gb309) (o := .cells #[.int .i64 a0_0, .int .i64 a0_1, .int .u32 a0_2, .int .u32 a0_3, .int .i64 a0_4, .int .i64 a0_5, .int .i64 a0_6, .string a0_7] 24 (0, 0)) (by (with_reducible repeat (first | refine blk_drewN ?_ _ | refine blk_drew ?_ | refine blk_alloc ?_ _)); exact BK309.out) hb); have n1_ := Aside0.mk (below_step (by repeat (first | (with_reducible first | exact HB.out | apply below_alloc | apply pw_below_drewN | apply below_drew1 | refine below_set ?_ GE309.out) | exact HB.out)) hb); clear BK309; clear HB; have BK309 := n0_; have HB := n1_; clear n0_ n1_; (try clear hb); (try clear hb2); (try clear hk); (try clear hi)) | ((with_reducible refine gate_dst (N := 13) rfl ?_); (try (refine gate_guard (by rfl) ?_; dsimp only)); refine box_event ?hg (N := 13) ?hd (cs := #[.int .i64 0, .int .i64 0, .int .u32 0, .int .u32 0, .int .i64 0, .int .i64 0, .int .i64 0, .string (⟨#[]⟩ : ByteArray)]) (t := 24) ?hr ?_; (case hd => rfl); (case hg => rfl); (case hr => first | (go_simp; done) | (go_simp; rfl)); intro gb334 hg w26 hbox hb; have n0_ := Aside0.mk (blk_below (g := gb309) (o := .cells #[.int .i64 a0_0, .int .i64 a0_1, .int .u32 a0_2, .int .u32 a0_3, .int .i64 a0_4, .int .i64 a0_5, .int .i64 a0_6, .string a0_7] 24 (0, 0)) (by (with_reducible repeat (first | refine blk_drewN ?_ _ | refine blk_drew ?_ | refine blk_alloc ?_ _)); exact BK309.out) hb); have n1_ := Aside0.mk (below_step (by repeat (first | (with_reducible first | exact HB.out | apply below_alloc | apply pw_below_drewN | apply below_drew1 | refine below_set ?_ GE309.out) | exact HB.out)) hb); have n2_ := Aside0.mk (hbox); have n3_ := Aside0.mk ((by rw [hg]; exact (below_size (by repeat (first | (with_reducible first | exact HB.out | apply below_alloc | apply pw_below_drewN | apply below_drew1 | refine below_set ?_ GE309.out) | exact HB.out))) : w.heap.size ≤ gb334)); have n4_ := Aside0.mk ((by rw [hg]; exact (below_size (by repeat (first | (with_reducible first | exact HB.out | apply below_alloc | apply pw_below_drewN | apply below_drew1 | refine below_set ?_ GE309.out) | exact HB.out))) : w.heap.size ≤ gb334)); have n5_ := Aside0.mk ((by rw [hg]; exact Nat.ne_of_lt (blk_lt (g := gb309) (o := .cells #[.int .i64 a0_0, .int .i64 a0_1, .int .u32 a0_2, .int .u32 a0_3, .int .i64 a0_4, .int .i64 a0_5, .int .i64 a0_6, .string a0_7] 24 (0, 0)) (by (with_reducible repeat (first | refine blk_drewN ?_ _ | refine blk_drew ?_ | refine blk_alloc ?_ _)); exact BK309.out)) : gb309 ≠ gb334)); have n6_ := Aside0.mk ((by rw [hg]; exact Nat.ne_of_gt (blk_lt (g := gb309) (o := .cells #[.int .i64 a0_0, .int .i64 a0_1, .int .u32 a0_2, .int .u32 a0_3, .int .i64 a0_4, .int .i64 a0_5, .int .i64 a0_6, .string a0_7] 24 (0, 0)) (by (with_reducible repeat (first | refine blk_drewN ?_ _ | refine blk_drew ?_ | refine blk_alloc ?_ _)); exact BK309.out)) : gb334 ≠ gb309)); clear BK309; clear HB; have BK309 := n0_; have HB := n1_; have BK334 := n2_; have GW334 := n3_; have GE334 := n4_; have NB309_334 := n5_; have NB334_309 := n6_; clear n0_ n1_ n2_ n3_ n4_ n5_ n6_; clear hb hbox hg; have hnb27 := NB334_309.out; have hnc27 := NB309_334.out; have hcz28_0 : w26.cell? ⟨gb334, 0, none⟩ = some (.int .i64 0) := (blk_cell BK334.out 0).trans rfl; have hcz28_1 : w26.cell? ⟨gb334, 1, none⟩ = some (.int .i64 0) := (blk_cell BK334.out 1).trans rfl; have hcz28_2 : w26.cell? ⟨gb334, 2, none⟩ = some (.int .u32 0) := (blk_cell BK334.out 2).trans rfl; have hcz28_3 : w26.cell? ⟨gb334, 3, none⟩ = some (.int .u32 0) := (blk_cell BK334.out 3).trans rfl; have hcz28_4 : w26.cell? ⟨gb334, 4, none⟩ = some (.int .i64 0) := (blk_cell BK334.out 4).trans rfl; have hcz28_5 : w26.cell? ⟨gb334, 5, none⟩ = some (.int .i64 0) := (blk_cell BK334.out 5).trans rfl; have hcz28_6 : w26.cell? ⟨gb334, 6, none⟩ = some (.int .i64 0) := (blk_cell BK334.out 6).trans rfl; have hcz28_7 : w26.cell? ⟨gb334, 7, none⟩ = some (.string (⟨#[]⟩ : ByteArray)) := (blk_cell BK334.out 7).trans rfl; have hfz28_0 := blk_frozen BK334.out 0; have hfz28_1 := blk_frozen BK334.out 1; have hfz28_2 := blk_frozen BK334.out 2; have hfz28_3 := blk_frozen BK334.out 3; have hfz28_4 := blk_frozen BK334.out 4; have hfz28_5 := blk_frozen BK334.out 5; have hfz28_6 := blk_frozen BK334.out 6; have hfz28_7 := blk_frozen BK334.out 7) | (go_at_call 11; (with_reducible refine (tcp_Build.calls t324 t325 t326 t327 t328 t329 t330 t331 t332 t335 t336 _ A23.out).mono ?_); rintro e w29 ⟨rfl, hb⟩; have n0_ := Aside0.mk (blk_below (g := gb309) (o := .cells #[.int .i64 a0_0, .int .i64 a0_1, .int .u32 a0_2, .int .u32 a0_3, .int .i64 a0_4, .int .i64 a0_5, .int .i64 a0_6, .string a0_7] 24 (0, 0)) (by (with_reducible repeat (first | refine blk_drewN ?_ _ | refine blk_drew ?_ | refine blk_alloc ?_ _)); refine blk_far ?_ NB309_334.out _; (with_reducible repeat (first | refine blk_drewN ?_ _ | refine blk_drew ?_ | refine blk_alloc ?_ _)); refine blk_far ?_ NB309_334.out _; (with_reducible repeat (first | refine blk_drewN ?_ _ | refine blk_drew ?_ | refine blk_alloc ?_ _)); refine blk_far ?_ NB309_334.out _; (with_reducible repeat (first | refine blk_drewN ?_ _ | refine blk_drew ?_ | refine blk_alloc ?_ _)); refine blk_far ?_ NB309_334.out _; (with_reducible repeat (first | refine blk_drewN ?_ _ | refine blk_drew ?_ | refine blk_alloc ?_ _)); refine blk_far ?_ NB309_334.out _; (with_reducible repeat (first | refine blk_drewN ?_ _ | refine blk_drew ?_ | refine blk_alloc ?_ _)); refine blk_far ?_ NB309_334.out _; (with_reducible repeat (first | refine blk_drewN ?_ _ | refine blk_drew ?_ | refine blk_alloc ?_ _)); refine blk_far ?_ NB309_334.out _; (with_reducible repeat (first | refine blk_drewN ?_ _ | refine blk_drew ?_ | refine blk_alloc ?_ _)); refine blk_far ?_ NB309_334.out _; (with_reducible repeat (first | refine blk_drewN ?_ _ | refine blk_drew ?_ | refine blk_alloc ?_ _)); exact BK309.out) hb); have n1_ := Aside0.mk (blk_below (g := gb334) (o := .cells #[.int .i64 t324, .int .i64 t325, .int .u32 t326, .int .u32 t327, .int .i64 t328, .int .i64 t329, .int .i64 t330, .string t331] 24 (0, 0)) (by (with_reducible repeat (first | refine blk_drewN ?_ _ | refine blk_drew ?_ | refine blk_alloc ?_ _)); refine blk_put (cs := #[.int .i64 t324, .int .i64 t325, .int .u32 t326, .int .u32 t327, .int .i64 t328, .int .i64 t329, .int .i64 t330, .string (⟨#[]⟩ : ByteArray)]) ?_ 7 _ rfl; (with_reducible repeat (first | refine blk_drewN ?_ _ | refine blk_drew ?_ | refine blk_alloc ?_ _)); refine blk_put (cs := #[.int .i64 t324, .int .i64 t325, .int .u32 t326, .int .u32 t327, .int .i64 t328, .int .i64 t329, .int .i64 0, .string (⟨#[]⟩ : ByteArray)]) ?_ 6 _ rfl; (with_reducible repeat (first | refine blk_drewN ?_ _ | refine blk_drew ?_ | refine blk_alloc ?_ _)); refine blk_put (cs := #[.int .i64 t324, .int .i64 t325, .int .u32 t326, .int .u32 t327, .int .i64 t328, .int .i64 0, .int .i64 0, .string (⟨#[]⟩ : ByteArray)]) ?_ 5 _ rfl; (with_reducible repeat (first | refine blk_drewN ?_ _ | refine blk_drew ?_ | refine blk_alloc ?_ _)); refine blk_put (cs := #[.int .i64 t324, .int .i64 t325, .int .u32 t326, .int .u32 t327, .int .i64 0, .int .i64 0, .int .i64 0, .string (⟨#[]⟩ : ByteArray)]) ?_ 4 _ rfl; (with_reducible repeat (first | refine blk_drewN ?_ _ | refine blk_drew ?_ | refine blk_alloc ?_ _)); refine blk_put (cs := #[.int .i64 t324, .int .i64 t325, .int .u32 t326, .int .u32 0, .int .i64 0, .int .i64 0, .int .i64 0, .string (⟨#[]⟩ : ByteArray)]) ?_ 3 _ rfl; (with_reducible repeat (first | refine blk_drewN ?_ _ | refine blk_drew ?_ | refine blk_alloc ?_ _)); refine blk_put (cs := #[.int .i64 t324, .int .i64 t325, .int .u32 0, .int .u32 0, .int .i64 0, .int .i64 0, .int .i64 0, .string (⟨#[]⟩ : ByteArray)]) ?_ 2 _ rfl; (with_reducible repeat (first | refine blk_drewN ?_ _ | refine blk_drew ?_ | refine blk_alloc ?_ _)); refine blk_put (cs := #[.int .i64 t324, .int .i64 0, .int .u32 0, .int .u32 0, .int .i64 0, .int .i64 0, .int .i64 0, .string (⟨#[]⟩ : ByteArray)]) ?_ 1 _ rfl; (with_reducible repeat (first | refine blk_drewN ?_ _ | refine blk_drew ?_ | refine blk_alloc ?_ _)); refine blk_put (cs := #[.int .i64 0, .int .i64 0, .int .u32 0, .int .u32 0, .int .i64 0, .int .i64 0, .int .i64 0, .string (⟨#[]⟩ : ByteArray)]) ?_ 0 _ rfl; (with_reducible repeat (first | refine blk_drewN ?_ _ | refine blk_drew ?_ | refine blk_alloc ?_ _)); exact BK334.out) hb); have n2_ := Aside0.mk (below_step (by repeat (first | (with_reducible first | exact HB.out | apply below_alloc | apply pw_below_drewN | apply below_drew1 | refine below_set ?_ GE309.out | refine below_set ?_ GE334.out) | exact HB.out)) hb); clear BK309; clear BK334; clear HB; have BK309 := n0_; have BK334 := n1_; have HB := n2_; clear n0_ n1_ n2_; (try clear hb); (try clear hb2); (try clear hk); (try clear hi))); go_upto_region 11 with (first | (go_at_call 20; (with_reducible refine (tcp_Parse.calls a2 t324 t325 t326 t327 t328 t329 t330 t331 t332 t333 _ A22.out).mono ?_); rintro e w25 ⟨rfl, hb⟩; have n0_ := Aside0.mk (blk_below (g := gb309) (o := .cells #[.int .i64 a0_0, .int .i64 a0_1, .int .u32 a0_2, .int .u32 a0_3, .int .i64 a0_4, .int .i64 a0_5, .int .i64 a0_6, .string a0_7] 24 (0, 0)) (by (with_reducible repeat (first | refine blk_drewN ?_ _ | refine blk_drew ?_ | refine blk_alloc ?_ _)); exact BK309.out) hb); have n1_ := Aside0.mk (below_step (by repeat (first | (with_reducible first | exact HB.out | apply below_alloc | apply pw_below_drewN | apply below_drew1 | refine below_set ?_ GE309.out) | exact HB.out)) hb); clear BK309; clear HB; have BK309 := n0_; have HB := n1_; clear n0_ n1_; (try clear hb); (try clear hb2); (try clear hk); (try clear hi)) | ((with_reducible refine gate_dst (N := 13) rfl ?_); (try (refine gate_guard (by rfl) ?_; dsimp only)); refine box_event ?hg (N := 13) ?hd (cs := #[.int .i64 0, .int .i64 0, .int .u32 0, .int .u32 0, .int .i64 0, .int .i64 0, .int .i64 0, .string (⟨#[]⟩ : ByteArray)]) (t := 24) ?hr ?_; (case hd => rfl); (case hg => rfl); (case hr => first | (go_simp; done) | (go_simp; rfl)); intro gb334 hg w26 hbox hb; have n0_ := Aside0.mk (blk_below (g := gb309) (o := .cells #[.int .i64 a0_0, .int .i64 a0_1, .int .u32 a0_2, .int .u32 a0_3, .int .i64 a0_4, .int .i64 a0_5, .int .i64 a0_6, .string a0_7] 24 (0, 0)) (by (with_reducible repeat (first | refine blk_drewN ?_ _ | refine blk_drew ?_ | refine blk_alloc ?_ _)); exact BK309.out) hb); have n1_ := Aside0.mk (below_step (by repeat (first | (with_reducible first | exact HB.out | apply below_alloc | apply pw_below_drewN | apply below_drew1 | refine below_set ?_ GE309.out) | exact HB.out)) hb); have n2_ := Aside0.mk (hbox); have n3_ := Aside0.mk ((by rw [hg]; exact (below_size (by repeat (first | (with_reducible first | exact HB.out | apply below_alloc | apply pw_below_drewN | apply below_drew1 | refine below_set ?_ GE309.out) | exact HB.out))) : w.heap.size ≤ gb334)); have n4_ := Aside0.mk ((by rw [hg]; exact (below_size (by repeat (first | (with_reducible first | exact HB.out | apply below_alloc | apply pw_below_drewN | apply below_drew1 | refine below_set ?_ GE309.out) | exact HB.out))) : w.heap.size ≤ gb334)); have n5_ := Aside0.mk ((by rw [hg]; exact Nat.ne_of_lt (blk_lt (g := gb309) (o := .cells #[.int .i64 a0_0, .int .i64 a0_1, .int .u32 a0_2, .int .u32 a0_3, .int .i64 a0_4, .int .i64 a0_5, .int .i64 a0_6, .string a0_7] 24 (0, 0)) (by (with_reducible repeat (first | refine blk_drewN ?_ _ | refine blk_drew ?_ | refine blk_alloc ?_ _)); exact BK309.out)) : gb309 ≠ gb334)); have n6_ := Aside0.mk ((by rw [hg]; exact Nat.ne_of_gt (blk_lt (g := gb309) (o := .cells #[.int .i64 a0_0, .int .i64 a0_1, .int .u32 a0_2, .int .u32 a0_3, .int .i64 a0_4, .int .i64 a0_5, .int .i64 a0_6, .string a0_7] 24 (0, 0)) (by (with_reducible repeat (first | refine blk_drewN ?_ _ | refine blk_drew ?_ | refine blk_alloc ?_ _)); exact BK309.out)) : gb334 ≠ gb309)); clear BK309; clear HB; have BK309 := n0_; have HB := n1_; have BK334 := n2_; have GW334 := n3_; have GE334 := n4_; have NB309_334 := n5_; have NB334_309 := n6_; clear n0_ n1_ n2_ n3_ n4_ n5_ n6_; clear hb hbox hg; have hnb27 := NB334_309.out; have hnc27 := NB309_334.out; have hcz28_0 : w26.cell? ⟨gb334, 0, none⟩ = some (.int .i64 0) := (blk_cell BK334.out 0).trans rfl; have hcz28_1 : w26.cell? ⟨gb334, 1, none⟩ = some (.int .i64 0) := (blk_cell BK334.out 1).trans rfl; have hcz28_2 : w26.cell? ⟨gb334, 2, none⟩ = some (.int .u32 0) := (blk_cell BK334.out 2).trans rfl; have hcz28_3 : w26.cell? ⟨gb334, 3, none⟩ = some (.int .u32 0) := (blk_cell BK334.out 3).trans rfl; have hcz28_4 : w26.cell? ⟨gb334, 4, none⟩ = some (.int .i64 0) := (blk_cell BK334.out 4).trans rfl; have hcz28_5 : w26.cell? ⟨gb334, 5, none⟩ = some (.int .i64 0) := (blk_cell BK334.out 5).trans rfl; have hcz28_6 : w26.cell? ⟨gb334, 6, none⟩ = some (.int .i64 0) := (blk_cell BK334.out 6).trans rfl; have hcz28_7 : w26.cell? ⟨gb334, 7, none⟩ = some (.string (⟨#[]⟩ : ByteArray)) := (blk_cell BK334.out 7).trans rfl; have hfz28_0 := blk_frozen BK334.out 0; have hfz28_1 := blk_frozen BK334.out 1; have hfz28_2 := blk_frozen BK334.out 2; have hfz28_3 := blk_frozen BK334.out 3; have hfz28_4 := blk_frozen BK334.out 4; have hfz28_5 := blk_frozen BK334.out 5; have hfz28_6 := blk_frozen BK334.out 6; have hfz28_7 := blk_frozen BK334.out 7) | (go_at_call 11; (with_reducible refine (tcp_Build.calls t324 t325 t326 t327 t328 t329 t330 t331 t332 t335 t336 _ A23.out).mono ?_); rintro e w29 ⟨rfl, hb⟩; have n0_ := Aside0.mk (blk_below (g := gb309) (o := .cells #[.int .i64 a0_0, .int .i64 a0_1, .int .u32 a0_2, .int .u32 a0_3, .int .i64 a0_4, .int .i64 a0_5, .int .i64 a0_6, .string a0_7] 24 (0, 0)) (by (with_reducible repeat (first | refine blk_drewN ?_ _ | refine blk_drew ?_ | refine blk_alloc ?_ _)); refine blk_far ?_ NB309_334.out _; (with_reducible repeat (first | refine blk_drewN ?_ _ | refine blk_drew ?_ | refine blk_alloc ?_ _)); refine blk_far ?_ NB309_334.out _; (with_reducible repeat (first | refine blk_drewN ?_ _ | refine blk_drew ?_ | refine blk_alloc ?_ _)); refine blk_far ?_ NB309_334.out _; (with_reducible repeat (first | refine blk_drewN ?_ _ | refine blk_drew ?_ | refine blk_alloc ?_ _)); refine blk_far ?_ NB309_334.out _; (with_reducible repeat (first | refine blk_drewN ?_ _ | refine blk_drew ?_ | refine blk_alloc ?_ _)); refine blk_far ?_ NB309_334.out _; (with_reducible repeat (first | refine blk_drewN ?_ _ | refine blk_drew ?_ | refine blk_alloc ?_ _)); refine blk_far ?_ NB309_334.out _; (with_reducible repeat (first | refine blk_drewN ?_ _ | refine blk_drew ?_ | refine blk_alloc ?_ _)); refine blk_far ?_ NB309_334.out _; (with_reducible repeat (first | refine blk_drewN ?_ _ | refine blk_drew ?_ | refine blk_alloc ?_ _)); refine blk_far ?_ NB309_334.out _; (with_reducible repeat (first | refine blk_drewN ?_ _ | refine blk_drew ?_ | refine blk_alloc ?_ _)); exact BK309.out) hb); have n1_ := Aside0.mk (blk_below (g := gb334) (o := .cells #[.int .i64 t324, .int .i64 t325, .int .u32 t326, .int .u32 t327, .int .i64 t328, .int .i64 t329, .int .i64 t330, .string t331] 24 (0, 0)) (by (with_reducible repeat (first | refine blk_drewN ?_ _ | refine blk_drew ?_ | refine blk_alloc ?_ _)); refine blk_put (cs := #[.int .i64 t324, .int .i64 t325, .int .u32 t326, .int .u32 t327, .int .i64 t328, .int .i64 t329, .int .i64 t330, .string (⟨#[]⟩ : ByteArray)]) ?_ 7 _ rfl; (with_reducible repeat (first | refine blk_drewN ?_ _ | refine blk_drew ?_ | refine blk_alloc ?_ _)); refine blk_put (cs := #[.int .i64 t324, .int .i64 t325, .int .u32 t326, .int .u32 t327, .int .i64 t328, .int .i64 t329, .int .i64 0, .string (⟨#[]⟩ : ByteArray)]) ?_ 6 _ rfl; (with_reducible repeat (first | refine blk_drewN ?_ _ | refine blk_drew ?_ | refine blk_alloc ?_ _)); refine blk_put (cs := #[.int .i64 t324, .int .i64 t325, .int .u32 t326, .int .u32 t327, .int .i64 t328, .int .i64 0, .int .i64 0, .string (⟨#[]⟩ : ByteArray)]) ?_ 5 _ rfl; (with_reducible repeat (first | refine blk_drewN ?_ _ | refine blk_drew ?_ | refine blk_alloc ?_ _)); refine blk_put (cs := #[.int .i64 t324, .int .i64 t325, .int .u32 t326, .int .u32 t327, .int .i64 0, .int .i64 0, .int .i64 0, .string (⟨#[]⟩ : ByteArray)]) ?_ 4 _ rfl; (with_reducible repeat (first | refine blk_drewN ?_ _ | refine blk_drew ?_ | refine blk_alloc ?_ _)); refine blk_put (cs := #[.int .i64 t324, .int .i64 t325, .int .u32 t326, .int .u32 0, .int .i64 0, .int .i64 0, .int .i64 0, .string (⟨#[]⟩ : ByteArray)]) ?_ 3 _ rfl; (with_reducible repeat (first | refine blk_drewN ?_ _ | refine blk_drew ?_ | refine blk_alloc ?_ _)); refine blk_put (cs := #[.int .i64 t324, .int .i64 t325, .int .u32 0, .int .u32 0, .int .i64 0, .int .i64 0, .int .i64 0, .string (⟨#[]⟩ : ByteArray)]) ?_ 2 _ rfl; (with_reducible repeat (first | refine blk_drewN ?_ _ | refine blk_drew ?_ | refine blk_alloc ?_ _)); refine blk_put (cs := #[.int .i64 t324, .int .i64 0, .int .u32 0, .int .u32 0, .int .i64 0, .int .i64 0, .int .i64 0, .string (⟨#[]⟩ : ByteArray)]) ?_ 1 _ rfl; (with_reducible repeat (first | refine blk_drewN ?_ _ | refine blk_drew ?_ | refine blk_alloc ?_ _)); refine blk_put (cs := #[.int .i64 0, .int .i64 0, .int .u32 0, .int .u32 0, .int .i64 0, .int .i64 0, .int .i64 0, .string (⟨#[]⟩ : ByteArray)]) ?_ 0 _ rfl; (with_reducible repeat (first | refine blk_drewN ?_ _ | refine blk_drew ?_ | refine blk_alloc ?_ _)); exact BK334.out) hb); have n2_ := Aside0.mk (below_step (by repeat (first | (with_reducible first | exact HB.out | apply below_alloc | apply pw_below_drewN | apply below_drew1 | refine below_set ?_ GE309.out | refine below_set ?_ GE334.out) | exact HB.out)) hb); clear BK309; clear BK334; clear HB; have BK309 := n0_; have BK334 := n1_; have HB := n2_; clear n0_ n1_ n2_; (try clear hb); (try clear hb2); (try clear hk); (try clear hi))))
        (try simp only [Act.put, List.setIfInBounds_toArray, List.set_cons_zero, List.set_cons_succ])
        go_cut [65] (fun v65 wc => ∃ (kq : Nat) (x65_23 : Bool), v65 = .bool x65_23 ∧ Aside0 (weighbridgelaw05_TcpBack.j1 kq a2 true t332 t333 t335 t336 x65_23 t324 t325 t326 t327 t328 t329 t330 t331 = some r) ∧ Aside0 (kq ≤ kj6) ∧ Aside0 (wc.heap[gb309]? = some (.cells #[.int .i64 a0_0, .int .i64 a0_1, .int .u32 a0_2, .int .u32 a0_3, .int .i64 a0_4, .int .i64 a0_5, .int .i64 a0_6, .string a0_7] 24 (0, 0))) ∧ Aside0 (wc.heap[gb334]? = some (.cells #[.int .i64 t324, .int .i64 t325, .int .u32 t326, .int .u32 t327, .int .i64 t328, .int .i64 t329, .int .i64 t330, .string t331] 24 (0, 0))) ∧ Aside0 (Below w.heap.size w wc))
        case first =>
          have H := HC24.out
          clear HC24
          by_cases c30 : t333 = 0
          · rw [if_pos c30] at H
            have c30b0 : (t333 == 0) = true := beq_iff_eq.mpr c30
            have c30b1 : (t333 != 0) = false := bne_eq_false_iff_eq.mpr c30
            clear c30
            (first | rw [c30b0] | (simp only [i64_w, i32_w]; rw [c30b0]) | skip)
            have H' := Aside0.mk H
            clear H
            go_wp2
            repeat (go_quiet (fail); try go_wp2)
            go_meet
            case rel => exact ⟨_, (decide ((a2.size : Int) > 1500)), (by first | rfl | (simp; done) | (congr 2; simp only [ByteArray.size_extract, ByteArray.size_append]; (try unfold wrap64); omega) | (simp only [ByteArray.size_extract, ByteArray.size_append, Nat.sub_zero]; done) | (congr 1; simp only [ByteArray.size_extract, ByteArray.size_append, Nat.sub_zero]; omega) | (simp [*]; done)), H', ⟨by have := HJ6.out; first | omega | exact Nat.le_refl _⟩, ⟨by (with_reducible repeat (first | refine blk_drewN ?_ _ | refine blk_drew ?_ | refine blk_alloc ?_ _)); exact BK309.out⟩, ⟨by (with_reducible repeat (first | refine blk_drewN ?_ _ | refine blk_drew ?_ | refine blk_alloc ?_ _)); exact BK334.out⟩, ⟨by repeat (first | (with_reducible first | exact HB.out | apply below_alloc | apply pw_below_drewN | apply below_drew1 | refine below_set ?_ GE309.out | refine below_set ?_ GE334.out) | exact HB.out)⟩⟩
          · rw [if_neg c30] at H
            have c30b0 : (t333 == 0) = false := beq_eq_false_iff_ne.mpr c30
            have c30b1 : (t333 != 0) = true := bne_iff_ne.mpr c30
            (first | rw [c30b0] | (simp only [i64_w, i32_w]; rw [c30b0]) | skip)
            have H' := Aside0.mk H
            clear H
            go_wp2
            repeat (go_quiet (fail); try go_wp2)
            go_meet
            case rel => exact ⟨_, (true), (by first | rfl | (simp; done) | (congr 2; simp only [ByteArray.size_extract, ByteArray.size_append]; (try unfold wrap64); omega) | (simp only [ByteArray.size_extract, ByteArray.size_append, Nat.sub_zero]; done) | (congr 1; simp only [ByteArray.size_extract, ByteArray.size_append, Nat.sub_zero]; omega) | (simp [*]; done)), H', ⟨by have := HJ6.out; first | omega | exact Nat.le_refl _⟩, ⟨by (with_reducible repeat (first | refine blk_drewN ?_ _ | refine blk_drew ?_ | refine blk_alloc ?_ _)); exact BK309.out⟩, ⟨by (with_reducible repeat (first | refine blk_drewN ?_ _ | refine blk_drew ?_ | refine blk_alloc ?_ _)); exact BK334.out⟩, ⟨by repeat (first | (with_reducible first | exact HB.out | apply below_alloc | apply pw_below_drewN | apply below_drew1 | refine below_set ?_ GE309.out | refine below_set ?_ GE334.out) | exact HB.out)⟩⟩
        case rest =>
          clear HC24
          try clear c1
          try clear c2
          try clear p2
          try clear c3
          try clear c5
          try clear c12
          try clear c12b0
          try clear c12b1
          try clear c14
          try clear c14b0
          try clear c15
          try clear c15b0
          try clear c15b1
          try clear c16
          try clear c16b0
          try clear c16b1
          try clear c19
          try clear c27
          try clear c30
          try clear c30b0
          try clear c30b1
          try clear hcz10_0
          try clear hcz10_1
          try clear hcz10_2
          try clear hcz10_3
          try clear hcz10_4
          try clear hcz10_5
          try clear hcz10_6
          try clear hcz10_7
          try clear hcz20_0
          try clear hcz20_1
          try clear hcz20_2
          try clear hcz20_3
          try clear hcz20_4
          try clear hcz20_5
          try clear hcz20_6
          try clear hcz20_7
          try clear hcz21_0
          try clear hcz21_1
          try clear hcz21_2
          try clear hcz21_3
          try clear hcz21_4
          try clear hcz21_5
          try clear hcz21_6
          try clear hcz21_7
          try clear hcz28_0
          try clear hcz28_1
          try clear hcz28_2
          try clear hcz28_3
          try clear hcz28_4
          try clear hcz28_5
          try clear hcz28_6
          try clear hcz28_7
          try clear hfz10_0
          try clear hfz10_1
          try clear hfz10_2
          try clear hfz10_3
          try clear hfz10_4
          try clear hfz10_5
          try clear hfz10_6
          try clear hfz10_7
          try clear hfz20_0
          try clear hfz20_1
          try clear hfz20_2
          try clear hfz20_3
          try clear hfz20_4
          try clear hfz20_5
          try clear hfz20_6
          try clear hfz20_7
          try clear hfz21_0
          try clear hfz21_1
          try clear hfz21_2
          try clear hfz21_3
          try clear hfz21_4
          try clear hfz21_5
          try clear hfz21_6
          try clear hfz21_7
          try clear hfz28_0
          try clear hfz28_1
          try clear hfz28_2
          try clear hfz28_3
          try clear hfz28_4
          try clear hfz28_5
          try clear hfz28_6
          try clear hfz28_7
          try clear p2
          obtain ⟨kq, x65_23, rfl, HA, HJ23, BK309, BK334, HB⟩ := hcut
          cases kq with
          | zero => exact absurd HA.out (by simp [weighbridgelaw05_TcpBack.j1])
          | succ kj23 =>
            have H := HA.out
            clear HA
            simp only [weighbridgelaw05_TcpBack.j1] at H
            by_cases c31 : x65_23 = true
            · subst c31
              have H1 : (if true = true then (if t333 = 0 then (some true) else (if (t324 == 0 && (t325 == 0 && (t326 == 0 && (t327 == 0 && (t328 == 0 && (t329 == 0 && (t330 == 0 && (t331.toList == ([] : List UInt8))))))))) = true then (some (t332.toList == ([] : List UInt8))) else (some false))) else (some false)) = some r := by first | (rw [if_pos rfl] at H; exact H) | (rw [if_pos trivial] at H; exact H)
              clear H
              have H := H1
              clear H1
              have c32 : true = true := rfl
              · clear c32
                have H1 : (if t333 = 0 then (some true) else (if (t324 == 0 && (t325 == 0 && (t326 == 0 && (t327 == 0 && (t328 == 0 && (t329 == 0 && (t330 == 0 && (t331.toList == ([] : List UInt8))))))))) = true then (some (t332.toList == ([] : List UInt8))) else (some false))) = some r := by first | (rw [if_pos rfl] at H; exact H) | (rw [if_pos trivial] at H; exact H)
                clear H
                have H := H1
                clear H1
                by_cases c33 : t333 = 0
                · rw [if_pos c33] at H
                  have c33b0 : (t333 == 0) = true := beq_iff_eq.mpr c33
                  have c33b1 : (t333 != 0) = false := bne_eq_false_iff_eq.mpr c33
                  clear c33
                  obtain rfl := Option.some.inj H
                  go_wp2
                  repeat (go_quiet (fail); try go_wp2)
                  go_ret
                  exact ⟨by first | rfl | (simp [errW_none, errW_some] <;> rfl) | (simp [*, errW_none, errW_some] <;> rfl), by repeat (first | (with_reducible first | exact HB.out | apply below_alloc | apply pw_below_drewN | apply below_drew1 | refine below_set ?_ GE309.out | refine below_set ?_ GE334.out) | exact HB.out)⟩
                · rw [if_neg c33] at H
                  have c33b0 : (t333 == 0) = false := beq_eq_false_iff_ne.mpr c33
                  have c33b1 : (t333 != 0) = true := bne_iff_ne.mpr c33
                  by_cases c34 : (t324 == 0 && (t325 == 0 && (t326 == 0 && (t327 == 0 && (t328 == 0 && (t329 == 0 && (t330 == 0 && (t331.toList == ([] : List UInt8))))))))) = true
                  · rw [if_pos c34] at H
                    have c34b0 : (t324 == 0 && (t325 == 0 && (t326 == 0 && (t327 == 0 && (t328 == 0 && (t329 == 0 && (t330 == 0 && (t331.toList == ([] : List UInt8))))))))) = true := c34
                    (try (have c34bq : (t324 = 0 ∧ (t325 = 0 ∧ (t326 = 0 ∧ (t327 = 0 ∧ (t328 = 0 ∧ (t329 = 0 ∧ (t330 = 0 ∧ (t331.toList = ([] : List UInt8))))))))) = True := eq_true (by simpa using c34b0)))
                    (try (have c34b1 : decide (t324 = 0 && (t325 == 0 && (t326 == 0 && (t327 == 0 && (t328 == 0 && (t329 == 0 && (t330 == 0 && (t331.toList == ([] : List UInt8))))))))) = true := by simpa using c34))
                    (try (have c34b2 : (t324 == 0 && (t325 == 0 && (t326 == 0 && (t327 == 0 && (t328 == 0 && (t329 == 0 && (t330 == 0 && (t331.toList == ([] : List UInt8))))))))) = true := by simpa using c34))
                    clear c34
                    obtain rfl := Option.some.inj H
                    have hnb35 := NB334_309.out
                    have hnc35 := NB309_334.out
                    have hcz36_0 : wc.cell? ⟨gb334, 0, none⟩ = some (.int .i64 t324) := (blk_cell BK334.out 0).trans rfl
                    have hcz36_1 : wc.cell? ⟨gb334, 1, none⟩ = some (.int .i64 t325) := (blk_cell BK334.out 1).trans rfl
                    have hcz36_2 : wc.cell? ⟨gb334, 2, none⟩ = some (.int .u32 t326) := (blk_cell BK334.out 2).trans rfl
                    have hcz36_3 : wc.cell? ⟨gb334, 3, none⟩ = some (.int .u32 t327) := (blk_cell BK334.out 3).trans rfl
                    have hcz36_4 : wc.cell? ⟨gb334, 4, none⟩ = some (.int .i64 t328) := (blk_cell BK334.out 4).trans rfl
                    have hcz36_5 : wc.cell? ⟨gb334, 5, none⟩ = some (.int .i64 t329) := (blk_cell BK334.out 5).trans rfl
                    have hcz36_6 : wc.cell? ⟨gb334, 6, none⟩ = some (.int .i64 t330) := (blk_cell BK334.out 6).trans rfl
                    have hcz36_7 : wc.cell? ⟨gb334, 7, none⟩ = some (.string t331) := (blk_cell BK334.out 7).trans rfl
                    have hfz36_0 := blk_frozen BK334.out 0
                    have hfz36_1 := blk_frozen BK334.out 1
                    have hfz36_2 := blk_frozen BK334.out 2
                    have hfz36_3 := blk_frozen BK334.out 3
                    have hfz36_4 := blk_frozen BK334.out 4
                    have hfz36_5 := blk_frozen BK334.out 5
                    have hfz36_6 := blk_frozen BK334.out 6
                    have hfz36_7 := blk_frozen BK334.out 7
                    go_wp2
                    repeat (go_quiet (fail); try go_wp2)
                    go_ret
                    exact ⟨by first | rfl | (simp [errW_none, errW_some] <;> rfl) | (simp [*, errW_none, errW_some] <;> rfl), by repeat (first | (with_reducible first | exact HB.out | apply below_alloc | apply pw_below_drewN | apply below_drew1 | refine below_set ?_ GE309.out | refine below_set ?_ GE334.out) | exact HB.out)⟩
                  · rw [if_neg c34] at H
                    have c34b0 : (t324 == 0 && (t325 == 0 && (t326 == 0 && (t327 == 0 && (t328 == 0 && (t329 == 0 && (t330 == 0 && (t331.toList == ([] : List UInt8))))))))) = false := by simpa using c34
                    (try (have c34bq : (t324 = 0 ∧ (t325 = 0 ∧ (t326 = 0 ∧ (t327 = 0 ∧ (t328 = 0 ∧ (t329 = 0 ∧ (t330 = 0 ∧ (t331.toList = ([] : List UInt8))))))))) = False := eq_false (fun h_ => by have e_ : (t324 == 0 && (t325 == 0 && (t326 == 0 && (t327 == 0 && (t328 == 0 && (t329 == 0 && (t330 == 0 && (t331.toList == ([] : List UInt8))))))))) = true := (by simpa using h_); rw [e_] at c34b0; cases c34b0)))
                    (try (have c34b1 : decide (t324 = 0 && (t325 == 0 && (t326 == 0 && (t327 == 0 && (t328 == 0 && (t329 == 0 && (t330 == 0 && (t331.toList == ([] : List UInt8))))))))) = false := by simpa using c34))
                    (try (have c34b2 : (t324 == 0 && (t325 == 0 && (t326 == 0 && (t327 == 0 && (t328 == 0 && (t329 == 0 && (t330 == 0 && (t331.toList == ([] : List UInt8))))))))) = false := by simpa using c34))
                    (try (have c34b3 : ¬ (t324 = 0 && (t325 == 0 && (t326 == 0 && (t327 == 0 && (t328 == 0 && (t329 == 0 && (t330 == 0 && (t331.toList == ([] : List UInt8))))))))) := by simpa using c34))
                    clear c34
                    exact absurd ((Option.some.inj H).trans hr_) (by decide)
            · replace c31 := Bool.eq_false_iff.mpr c31
              subst c31
              have H1 : (if t336 = 0 then (if (t335.size : Int) = (a2.size : Int) then (if true = true then (if 0 ≤ 16 then (if 16 ≤ (t335.size : Int) then (if 16 ≤ (a2.size : Int) then (if (t335.extract 0 16).toList = (a2.extract 0 16).toList then (if 18 ≤ (t335.size : Int) then (if 18 ≤ (a2.size : Int) then (if (t335.extract 18 t335.size).toList = (a2.extract 18 a2.size).toList then (if 16 ≤ 18 then (some ((t335.extract 16 18).toList == ([0, 0] : List UInt8))) else (none)) else (some false)) else (none)) else (none)) else (some false)) else (none)) else (none)) else (none)) else (some false)) else (some false)) else (some false)) = some r := by rw [if_neg (show ¬ (false = true) by decide)] at H; exact H
              clear H
              have H := H1
              clear H1
              by_cases c37 : t336 = 0
              · rw [if_pos c37] at H
                have c37b0 : (t336 == 0) = true := beq_iff_eq.mpr c37
                have c37b1 : (t336 != 0) = false := bne_eq_false_iff_eq.mpr c37
                clear c37
                by_cases c38 : (t335.size : Int) = (a2.size : Int)
                · rw [if_pos c38] at H
                  have c38b0 : ((t335.size : Int) == (a2.size : Int)) = true := beq_iff_eq.mpr c38
                  have c38b1 : ((t335.size : Int) != (a2.size : Int)) = false := bne_eq_false_iff_eq.mpr c38
                  have c38b2 : (t335.size == a2.size) = true := by first | simpa using c38 | (simp at c38 ⊢; omega)
                  clear c38
                  have c39 : true = true := rfl
                  · clear c39
                    have H1 : (if 0 ≤ 16 then (if 16 ≤ (t335.size : Int) then (if 16 ≤ (a2.size : Int) then (if (t335.extract 0 16).toList = (a2.extract 0 16).toList then (if 18 ≤ (t335.size : Int) then (if 18 ≤ (a2.size : Int) then (if (t335.extract 18 t335.size).toList = (a2.extract 18 a2.size).toList then (if 16 ≤ 18 then (some ((t335.extract 16 18).toList == ([0, 0] : List UInt8))) else (none)) else (some false)) else (none)) else (none)) else (some false)) else (none)) else (none)) else (none)) = some r := by first | (rw [if_pos rfl] at H; exact H) | (rw [if_pos trivial] at H; exact H)
                    clear H
                    have H := H1
                    clear H1
                    by_cases c40 : 0 ≤ 16
                    · rw [if_pos c40] at H
                      have c40b0 := eq_true c40
                      have c40b1 : decide (0 ≤ 16) = true := decide_eq_true c40
                      clear c40
                      by_cases c41 : 16 ≤ (t335.size : Int)
                      · rw [if_pos c41] at H
                        have c41b0 := eq_true c41
                        have c41b1 : decide (16 ≤ (t335.size : Int)) = true := decide_eq_true c41
                        clear c41
                        have c42b0 := eq_true (of_decide_eq_true (by first | (with_reducible assumption) | assumption) : 0 ≤ 16)
                        by_cases c43 : 16 ≤ (a2.size : Int)
                        · rw [if_pos c43] at H
                          have c43b0 := eq_true c43
                          have c43b1 : decide (16 ≤ (a2.size : Int)) = true := decide_eq_true c43
                          clear c43
                          by_cases c44 : (t335.extract 0 16).toList = (a2.extract 0 16).toList
                          · rw [if_pos c44] at H
                            have c44b0 : ((t335.extract 0 16).toList == (a2.extract 0 16).toList) = true := beq_iff_eq.mpr c44
                            have c44b1 : ((t335.extract 0 16).toList != (a2.extract 0 16).toList) = false := bne_eq_false_iff_eq.mpr c44
                            clear c44
                            by_cases c45 : 18 ≤ (t335.size : Int)
                            · rw [if_pos c45] at H
                              have c45b0 := eq_true c45
                              have c45b1 : decide (18 ≤ (t335.size : Int)) = true := decide_eq_true c45
                              clear c45
                              by_cases c46 : 18 ≤ (a2.size : Int)
                              · rw [if_pos c46] at H
                                have c46b0 := eq_true c46
                                have c46b1 : decide (18 ≤ (a2.size : Int)) = true := decide_eq_true c46
                                clear c46
                                by_cases c47 : (t335.extract 18 t335.size).toList = (a2.extract 18 a2.size).toList
                                · rw [if_pos c47] at H
                                  have c47b0 : ((t335.extract 18 t335.size).toList == (a2.extract 18 a2.size).toList) = true := beq_iff_eq.mpr c47
                                  have c47b1 : ((t335.extract 18 t335.size).toList != (a2.extract 18 a2.size).toList) = false := bne_eq_false_iff_eq.mpr c47
                                  clear c47
                                  by_cases c48 : 16 ≤ 18
                                  · rw [if_pos c48] at H
                                    have c48b0 := eq_true c48
                                    have c48b1 : decide (16 ≤ 18) = true := decide_eq_true c48
                                    clear c48
                                    have c49b0 := eq_true (of_decide_eq_true (by first | (with_reducible assumption) | assumption) : 18 ≤ (t335.size : Int))
                                    obtain rfl := Option.some.inj H
                                    go_wp2
                                    repeat (go_quiet (fail); try go_wp2)
                                    go_ret
                                    exact ⟨by first | rfl | (simp [errW_none, errW_some] <;> rfl) | (simp [*, errW_none, errW_some] <;> rfl), by repeat (first | (with_reducible first | exact HB.out | apply below_alloc | apply pw_below_drewN | apply below_drew1 | refine below_set ?_ GE309.out | refine below_set ?_ GE334.out) | exact HB.out)⟩
                                  · rw [if_neg c48] at H
                                    exact absurd H (by simp)
                                · rw [if_neg c47] at H
                                  have c47b0 : ((t335.extract 18 t335.size).toList == (a2.extract 18 a2.size).toList) = false := beq_eq_false_iff_ne.mpr c47
                                  have c47b1 : ((t335.extract 18 t335.size).toList != (a2.extract 18 a2.size).toList) = true := bne_iff_ne.mpr c47
                                  exact absurd ((Option.some.inj H).trans hr_) (by decide)
                              · rw [if_neg c46] at H
                                exact absurd H (by simp)
                            · rw [if_neg c45] at H
                              exact absurd H (by simp)
                          · rw [if_neg c44] at H
                            have c44b0 : ((t335.extract 0 16).toList == (a2.extract 0 16).toList) = false := beq_eq_false_iff_ne.mpr c44
                            have c44b1 : ((t335.extract 0 16).toList != (a2.extract 0 16).toList) = true := bne_iff_ne.mpr c44
                            exact absurd ((Option.some.inj H).trans hr_) (by decide)
                        · rw [if_neg c43] at H
                          exact absurd H (by simp)
                      · rw [if_neg c41] at H
                        exact absurd H (by simp)
                    · rw [if_neg c40] at H
                      exact absurd H (by simp)
                · rw [if_neg c38] at H
                  have c38b0 : ((t335.size : Int) == (a2.size : Int)) = false := beq_eq_false_iff_ne.mpr c38
                  have c38b1 : ((t335.size : Int) != (a2.size : Int)) = true := bne_iff_ne.mpr c38
                  have c38b2 : (t335.size == a2.size) = false := by first | simpa using c38 | (simp at c38 ⊢; omega)
                  exact absurd ((Option.some.inj H).trans hr_) (by decide)
              · rw [if_neg c37] at H
                have c37b0 : (t336 == 0) = false := beq_eq_false_iff_ne.mpr c37
                have c37b1 : (t336 != 0) = true := bne_iff_ne.mpr c37
                exact absurd ((Option.some.inj H).trans hr_) (by decide)
  · replace c5 := Bool.eq_false_iff.mpr c5
    subst c5
    have H1 : (some false) = some r := by rw [if_neg (show ¬ (false = true) by decide)] at H; exact H
    clear H
    have H := H1
    clear H1
    exact absurd ((Option.some.inj H).trans hr_) (by decide)

/-- THE ONE PURE STATEMENT of weighbridgelaw05_TcpBack: yours. -/
def weighbridgelaw05_TcpBack.Pure : Prop := ∀ (a0_0 : Int) (a0_1 : Int) (a0_2 : Int) (a0_3 : Int) (a0_4 : Int) (a0_5 : Int) (a0_6 : Int) (a0_7 : ByteArray) (a1 : ByteArray) (a2 : ByteArray), (Lit.int .i64 a0_0).wf = true → (Lit.int .i64 a0_1).wf = true → (Lit.int .u32 a0_2).wf = true → (Lit.int .u32 a0_3).wf = true → (Lit.int .i64 a0_4).wf = true → (Lit.int .i64 a0_5).wf = true → (Lit.int .i64 a0_6).wf = true → a0_7.size ≤ 140737488351232 → a1.size ≤ 140737488351232 → a2.size ≤ 140737488351232 → ∃ k, weighbridgelaw05_TcpBack.f k a0_0 a0_1 a0_2 a0_3 a0_4 a0_5 a0_6 a0_7 a1 a2 = some true
theorem weighbridgelaw05_TcpBack.walk (P : weighbridgelaw05_TcpBack.Pure) (a0_0 : Int) (a0_1 : Int) (a0_2 : Int) (a0_3 : Int) (a0_4 : Int) (a0_5 : Int) (a0_6 : Int) (a0_7 : ByteArray) (a1 : ByteArray) (a2 : ByteArray) (w : World) (w0_0 : (Lit.int .i64 a0_0).wf = true) (w0_1 : (Lit.int .i64 a0_1).wf = true) (w0_2 : (Lit.int .u32 a0_2).wf = true) (w0_3 : (Lit.int .u32 a0_3).wf = true) (w0_4 : (Lit.int .i64 a0_4).wf = true) (w0_5 : (Lit.int .i64 a0_5).wf = true) (w0_6 : (Lit.int .i64 a0_6).wf = true) (w0_7 : a0_7.size ≤ 140737488351232) (w1 : a1.size ≤ 140737488351232) (w2 : a2.size ≤ 140737488351232) :
    Calls Try.prog 5 #[.agg #[.int .i64 a0_0, .int .i64 a0_1, .int .u32 a0_2, .int .u32 a0_3, .int .i64 a0_4, .int .i64 a0_5, .int .i64 a0_6, .string a0_7], .string a1, .string a2] w fun e w' => e = .returned (.bool true) ∧ Below w.heap.size w w' := by
  obtain ⟨k, h⟩ := P a0_0 a0_1 a0_2 a0_3 a0_4 a0_5 a0_6 a0_7 a1 a2 w0_0 w0_1 w0_2 w0_3 w0_4 w0_5 w0_6 w0_7 w1 w2
  refine (weighbridgelaw05_TcpBack.calls k a0_0 a0_1 a0_2 a0_3 a0_4 a0_5 a0_6 a0_7 a1 a2 true w h rfl).mono ?_
  rintro e w' ⟨rfl, hd⟩
  exact ⟨rfl, hd⟩
def weighbridgelaw05_TcpBack.PureU : Prop := ∀ (a0_0 : Int) (a0_1 : Int) (a0_2 : Int) (a0_3 : Int) (a0_4 : Int) (a0_5 : Int) (a0_6 : Int) (a0_7 : ByteArray) (a1 : ByteArray) (a2 : ByteArray), (Lit.int .i64 a0_0).wf = true → (Lit.int .i64 a0_1).wf = true → (Lit.int .u32 a0_2).wf = true → (Lit.int .u32 a0_3).wf = true → (Lit.int .i64 a0_4).wf = true → (Lit.int .i64 a0_5).wf = true → (Lit.int .i64 a0_6).wf = true → a0_7.size ≤ 1048576 → a1.size ≤ 1048576 → a2.size ≤ 1048576 → ∃ k, weighbridgelaw05_TcpBack.f k a0_0 a0_1 a0_2 a0_3 a0_4 a0_5 a0_6 a0_7 a1 a2 = some true
theorem weighbridgelaw05_TcpBack.walkU (P : weighbridgelaw05_TcpBack.PureU) (a0_0 : Int) (a0_1 : Int) (a0_2 : Int) (a0_3 : Int) (a0_4 : Int) (a0_5 : Int) (a0_6 : Int) (a0_7 : ByteArray) (a1 : ByteArray) (a2 : ByteArray) (w : World) (w0_0 : (Lit.int .i64 a0_0).wf = true) (w0_1 : (Lit.int .i64 a0_1).wf = true) (w0_2 : (Lit.int .u32 a0_2).wf = true) (w0_3 : (Lit.int .u32 a0_3).wf = true) (w0_4 : (Lit.int .i64 a0_4).wf = true) (w0_5 : (Lit.int .i64 a0_5).wf = true) (w0_6 : (Lit.int .i64 a0_6).wf = true) (w0_7 : a0_7.size ≤ 1048576) (w1 : a1.size ≤ 1048576) (w2 : a2.size ≤ 1048576) :
    Calls Try.prog 5 #[.agg #[.int .i64 a0_0, .int .i64 a0_1, .int .u32 a0_2, .int .u32 a0_3, .int .i64 a0_4, .int .i64 a0_5, .int .i64 a0_6, .string a0_7], .string a1, .string a2] w fun e w' => e = .returned (.bool true) ∧ Below w.heap.size w w' := by
  obtain ⟨k, h⟩ := P a0_0 a0_1 a0_2 a0_3 a0_4 a0_5 a0_6 a0_7 a1 a2 w0_0 w0_1 w0_2 w0_3 w0_4 w0_5 w0_6 w0_7 w1 w2
  refine (weighbridgelaw05_TcpBack.calls k a0_0 a0_1 a0_2 a0_3 a0_4 a0_5 a0_6 a0_7 a1 a2 true w h rfl).mono ?_
  rintro e w' ⟨rfl, hd⟩
  exact ⟨rfl, hd⟩

end Go.Proofs.Ytlhpfoibohiggaa.Pr
