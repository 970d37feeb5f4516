-- Written by a program of the session (wip/tools) out of the translation, over the kit's print; with pieces of the session's own.
import Derived.Test.YtpjimpdfjacnoaaPr0
import Derived.Test.YtpjimpdfjacnoaaPr2
import Derived.Test.YtpjimpdfjacnoaaPr3
import Derived.Test.YtpjimpdfjacnoaaPr4
namespace Go.Proofs.Ytpjimpdfjacnoaa.Pr
open Go.RowKit Go.Proofs.YtpjimpdfjacnoaaW.PrintWords Go.Proofs.YtpjimpdfjacnoaaW.PrintLast Go.Proofs.YtpjimpdfjacnoaaW.PrintMore
attribute [local go_sem] max2_int min2_int max_two min_two max_three min_three max_four min_four   -- for this text's walks alone
set_option linter.unusedVariables false
set_option linter.unusedSimpArgs false
open Go.Proofs.Ytpjimpdfjacnoaa.Sp
/-! ### pseudo_Place: function 14 -/
section
open Go.Maps
theorem zeroInt (w : World) : (zeroValue 3).run Try.prog w = .ok (.int .i64 0) w := by kernel_rfl
theorem place_data (p : Int) : (((DataW.map (H := Unit) []).put (.int .i64 6) (.lit (.int .i64 16))).put (.int .i64 17) (.lit (.int .i64 6))).atKey (.int .i64 p) (.lit (.int .i64 0)) = .lit (.int .i64 (Sp.place p).1) ∧
    Maps.has (((DataW.map (H := Unit) []).put (.int .i64 6) (.lit (.int .i64 16))).put (.int .i64 17) (.lit (.int .i64 6))) (.int .i64 p) = (Sp.place p).2 := by
  by_cases h1 : p = 6
  · subst h1; exact ⟨rfl, rfl⟩
  · by_cases h2 : p = 17
    · subst h2; exact ⟨rfl, rfl⟩
    · have n1 : (Lit.int .i64 p) ≠ .int .i64 6 := fun h => h1 (by injection h)
      have n2 : (Lit.int .i64 p) ≠ .int .i64 17 := fun h => h2 (by injection h)
      have e : Sp.place p = (0, false) := by unfold Sp.place; rw [if_neg h1, if_neg h2]
      rw [Maps.atKey_put_other n2, Maps.atKey_put_other n1, Maps.has_put_other n2, Maps.has_put_other n1, e]
      exact ⟨rfl, rfl⟩
set_option maxRecDepth 100000 in
theorem Place_any (p : Int) (hp : i64in p = true) (w : World) :
    Calls Try.prog 14 #[.int .i64 p] w fun e w' => e = .returned (.tuple #[.int .i64 (Sp.place p).1, .bool (Sp.place p).2]) ∧ Below w.heap.size w w' := by
  have hmm := @run_makeMap Try.prog
  have HP := Lib.hid (i64wf hp)
  clear hp
  go_enter Try.func14, Try.ntmps14
  go_wp2_with (first
    | (refine wpList_insert_own (H := Unit) _ rfl _ (.const (.int .i64 6)) (.const (.int .i64 16)) 49 rfl 3 3 (int_keyed Try.underlying3) Try.underlying49 (plainElem Try.prog 3) w.heap.size 0 (.map []) rfl (World.ownsMap_made _ _ _ _) (by decide) (.int .i64 6) (.int .i64 16) (.int .i64 6) rfl rfl (keyOf_int_mk Try.underlying3 (by decide)) (.lit (.int .i64 16)) [] (plainElem_int Try.underlying3 (by decide)) ?_; intro w1 hown1 hg1)
    | (refine wpList_insert_own (H := Unit) _ rfl _ (.const (.int .i64 17)) (.const (.int .i64 6)) 49 rfl 3 3 (int_keyed Try.underlying3) Try.underlying49 (plainElem Try.prog 3) w.heap.size (0 + 1) _ rfl hown1 (by decide) (.int .i64 17) (.int .i64 6) (.int .i64 17) rfl rfl (keyOf_int_mk Try.underlying3 (by decide)) (.lit (.int .i64 6)) [] (plainElem_int Try.underlying3 (by decide)) ?_; intro w2 hown2 hg2)
    | (at_lookup; refine wpList_lookup_own_ok_int (H := Unit) _ rfl _ _ 49 rfl 3 3 .i64 (int_keyed Try.underlying3) Try.underlying49 Try.underlying3 (zeroInt _) w.heap.size _ _ rfl hown2 _ _ rfl (keyOf_int_mk Try.underlying3 HP.out) ?_; intro c hat hwc))
  obtain ⟨d1, d2⟩ := place_data p
  go_ret2
  rw [d1] at hat
  injection hat with hat
  injection hat with _ hat
  rw [d2, ← hat]
  exact ⟨rfl, (((below_alloc (Below.refl _ w) _).grown hg1 (by simp) (fun k e => by cases e; exact Nat.le_refl _)).grown hg2 (by have := hg1.size; simp at this; omega) (fun k e => by cases e; exact Nat.le_refl _))⟩
end
def pseudo_Place.f (a0 : Int) : Option (Int × Bool) := if i64in a0 = true then some (Sp.place a0) else none
theorem pseudo_Place_eq {a0 : Int} (h0 : -9223372036854775808 ≤ a0) (h1 : a0 ≤ 9223372036854775807) : pseudo_Place.f a0 = some (Sp.place a0) := by unfold pseudo_Place.f; exact if_pos (decide_eq_true ⟨h0, h1⟩)
theorem pseudo_Place.calls (a0 : Int) (r1 : Int) (r2 : Bool) (w : World) (h : pseudo_Place.f a0 = some (r1, r2)) :
    Calls Try.prog 14 #[.int .i64 a0] w fun e w' => e = .returned (.tuple #[.int .i64 r1, .bool r2]) ∧ Below w.heap.size w w' := by
  unfold pseudo_Place.f at h
  split at h
  case isFalse => cases h
  case isTrue hs =>
    have h := Option.some.inj h
    have := Place_any a0 hs w
    rw [h] at this
    exact this
/-! ### pseudo_covered_p: function 20 -/
def pseudo_covered_p.f (a0 : Int) (a1 : ByteArray) : Option (ByteArray) := (udp_Size.f a1).bind fun bt110 => (if bt110.2 = true then (if a0 = 17 then (if 0 ≤ bt110.1 then (if bt110.1 ≤ (a1.size : Int) then (some (a1.extract 0 (bt110.1 : Int).toNat)) else (none)) else (none)) else (some a1)) else (some a1))
set_option maxHeartbeats 8000000 in
set_option maxRecDepth 100000 in
theorem pseudo_covered_p.calls (a0 : Int) (a1 : ByteArray) (r : ByteArray) (w : World) (h : pseudo_covered_p.f a0 a1 = some r) :
    Calls Try.prog 20 #[.int .i64 a0, .string a1] w fun e w' => e = .returned (.string r) ∧ Below w.heap.size w w' := by
  have HB := Aside0.mk (Below.refl w.heap.size w)
  have H : ((udp_Size.f a1).bind fun bt110 => (if bt110.2 = true then (if a0 = 17 then (if 0 ≤ bt110.1 then (if bt110.1 ≤ (a1.size : Int) then (some (a1.extract 0 (bt110.1 : Int).toNat)) else (none)) else (none)) else (some a1)) else (some a1))) = some r := h
  clear h
  replace H := Option.bind_eq_some_iff.mp H
  obtain ⟨⟨t110, t111⟩, A30, H⟩ := H
  replace H : (if t111 = true then (if a0 = 17 then (if 0 ≤ t110 then (if t110 ≤ (a1.size : Int) then (some (a1.extract 0 (t110 : Int).toNat)) else (none)) else (none)) else (some a1)) else (some a1)) = some r := H
  have A3 := Aside0.mk A30
  clear A30
  by_cases c4 : t111 = true
  · subst c4
    have H1 : (if a0 = 17 then (if 0 ≤ t110 then (if t110 ≤ (a1.size : Int) then (some (a1.extract 0 (t110 : Int).toNat)) else (none)) else (none)) else (some a1)) = some r := by first | (rw [if_pos rfl] at H; exact H) | (rw [if_pos trivial] at H; exact H)
    clear H
    have H := H1
    clear H1
    by_cases c5 : a0 = 17
    · rw [if_pos c5] at H
      have c5b0 : (a0 == 17) = true := beq_iff_eq.mpr c5
      have c5b1 : (a0 != 17) = false := bne_eq_false_iff_eq.mpr c5
      clear c5
      by_cases c6 : 0 ≤ t110
      · rw [if_pos c6] at H
        have c6b0 := eq_true c6
        have c6b1 : decide (0 ≤ t110) = true := decide_eq_true c6
        clear c6
        by_cases c7 : t110 ≤ (a1.size : Int)
        · rw [if_pos c7] at H
          have c7b0 := eq_true c7
          have c7b1 : decide (t110 ≤ (a1.size : Int)) = true := decide_eq_true c7
          clear c7
          obtain rfl := Option.some.inj H
          go_enter Try.func20, Try.ntmps20
          go_wp2_with (first | ((with_reducible refine gate_callee (f := 32) rfl ?_); refine goesL_ (some 9) rfl rfl Try.func32 (by kernel_rfl) rfl #[.string a1] rfl (by (try simp only [List.map_toArray, List.map_cons, List.map_nil]); first | done | rfl | (simp only [List.length_drop, List.length_take]; rfl)) ?_; (with_reducible refine (udp_Size.calls a1 t110 true _ A3.out).mono ?_); rintro e w8 ⟨rfl, hb⟩; (try clear A3); refine ⟨_, rfl, ?_⟩; have n0_ := Aside0.mk (below_step (by repeat (first | (with_reducible first | exact HB.out | apply below_alloc | apply pw_below_drewN | apply below_drew1) | exact HB.out)) hb); clear HB; have HB := n0_; clear n0_; (try clear hb); (try clear hb2); (try clear hk); (try clear hi)))
          go_ret
          exact ⟨by first | rfl | (simp [errW_none, errW_some] <;> rfl) | (simp [*, errW_none, errW_some] <;> rfl), by repeat (first | (with_reducible first | exact HB.out | apply below_alloc | apply pw_below_drewN | apply below_drew1) | exact HB.out)⟩
        · rw [if_neg c7] at H
          exact absurd H (by simp)
      · rw [if_neg c6] at H
        exact absurd H (by simp)
    · rw [if_neg c5] at H
      have c5b0 : (a0 == 17) = false := beq_eq_false_iff_ne.mpr c5
      have c5b1 : (a0 != 17) = true := bne_iff_ne.mpr c5
      obtain rfl := Option.some.inj H
      go_enter Try.func20, Try.ntmps20
      go_wp2_with (first | ((with_reducible refine gate_callee (f := 32) rfl ?_); refine goesL_ (some 9) rfl rfl Try.func32 (by kernel_rfl) rfl #[.string a1] rfl (by (try simp only [List.map_toArray, List.map_cons, List.map_nil]); first | done | rfl | (simp only [List.length_drop, List.length_take]; rfl)) ?_; (with_reducible refine (udp_Size.calls a1 t110 true _ A3.out).mono ?_); rintro e w9 ⟨rfl, hb⟩; (try clear A3); refine ⟨_, rfl, ?_⟩; have n0_ := Aside0.mk (below_step (by repeat (first | (with_reducible first | exact HB.out | apply below_alloc | apply pw_below_drewN | apply below_drew1) | exact HB.out)) hb); clear HB; have HB := n0_; clear n0_; (try clear hb); (try clear hb2); (try clear hk); (try clear hi)))
      go_ret
      exact ⟨by first | rfl | (simp [errW_none, errW_some] <;> rfl) | (simp [*, errW_none, errW_some] <;> rfl), by repeat (first | (with_reducible first | exact HB.out | apply below_alloc | apply pw_below_drewN | apply below_drew1) | exact HB.out)⟩
  · replace c4 := Bool.eq_false_iff.mpr c4
    subst c4
    have H1 : (some a1) = some r := by rw [if_neg (show ¬ (false = true) by decide)] at H; exact H
    clear H
    have H := H1
    clear H1
    obtain rfl := Option.some.inj H
    go_enter Try.func20, Try.ntmps20
    go_wp2_with (first | ((with_reducible refine gate_callee (f := 32) rfl ?_); refine goesL_ (some 9) rfl rfl Try.func32 (by kernel_rfl) rfl #[.string a1] rfl (by (try simp only [List.map_toArray, List.map_cons, List.map_nil]); first | done | rfl | (simp only [List.length_drop, List.length_take]; rfl)) ?_; (with_reducible refine (udp_Size.calls a1 t110 false _ A3.out).mono ?_); rintro e w10 ⟨rfl, hb⟩; (try clear A3); refine ⟨_, rfl, ?_⟩; have n0_ := Aside0.mk (below_step (by repeat (first | (with_reducible first | exact HB.out | apply below_alloc | apply pw_below_drewN | apply below_drew1) | exact HB.out)) hb); clear HB; have HB := n0_; clear n0_; (try clear hb); (try clear hb2); (try clear hk); (try clear hi)))
    go_ret
    exact ⟨by first | rfl | (simp [errW_none, errW_some] <;> rfl) | (simp [*, errW_none, errW_some] <;> rfl), by repeat (first | (with_reducible first | exact HB.out | apply below_alloc | apply pw_below_drewN | apply below_drew1) | exact HB.out)⟩

theorem cov_lb (a0 : Int) (s : ByteArray) : (if a0 = 17 ∧ (Sp.udpSize (bl s)).2 = true then s.extract 0 (Sp.udpSize (bl s)).1.toNat else s) = lb (Sp.cov a0 (bl s)) := by
  unfold Sp.cov
  split
  · exact Sp.bl_inj (by rw [Sp.bl_extract, bl_lb, List.drop_zero])
  · rw [Sp.lb_bl]
theorem udpSize_in (s : ByteArray) (h : (Sp.udpSize (bl s)).2 = true) : 0 ≤ (Sp.udpSize (bl s)).1 ∧ (Sp.udpSize (bl s)).1 ≤ s.size := by
  have hb := Sp.udpLen_bounds (bl s)
  unfold Sp.udpSize at h ⊢
  rw [bl_length] at h ⊢
  split at h
  case isTrue => cases h
  case isFalse h1 =>
    split at h
    case isTrue => cases h
    case isFalse h2 => rw [if_neg h1, if_neg h2]; exact ⟨hb.1, by show Sp.udpLen (bl s) ≤ _; omega⟩
def pseudo_covered.f (a0 : Int) (a1 : ByteArray) : Option ByteArray := if a1.size ≤ big then some (lb (Sp.cov a0 (bl a1))) else none
theorem pseudo_covered_eq {a0 : Int} {a1 : ByteArray} (h : a1.size ≤ 281474976710656) : pseudo_covered.f a0 a1 = some (lb (Sp.cov a0 (bl a1))) := by unfold pseudo_covered.f; exact if_pos h
theorem pseudo_covered_ev (a0 : Int) (a1 : ByteArray) (r : ByteArray) (h : pseudo_covered.f a0 a1 = some r) : pseudo_covered_p.f a0 a1 = some r := by
  unfold pseudo_covered.f at h
  split at h
  case isFalse => cases h
  case isTrue hs =>
    unfold big at hs
    rw [← h, ← cov_lb]
    unfold pseudo_covered_p.f
    rw [udp_Size_eq hs, Option.bind_some]
    by_cases h2 : (Sp.udpSize (bl a1)).2 = true
    · have hb := udpSize_in a1 h2
      rw [if_pos h2]
      by_cases h1 : a0 = 17
      · rw [if_pos h1, if_pos hb.1, if_pos hb.2, if_pos ⟨h1, h2⟩]
      · rw [if_neg h1, if_neg (fun h => h1 h.1)]
    · rw [if_neg h2, if_neg (fun h => h2 h.2)]
theorem pseudo_covered.calls (a0 : Int) (a1 : ByteArray) (r : ByteArray) (w : World) (h : pseudo_covered.f a0 a1 = some r) :
    Calls Try.prog 20 #[.int .i64 a0, .string a1] w fun e w' => e = .returned (.string r) ∧ Below w.heap.size w w' := by
  have hk := pseudo_covered_ev a0 a1 _ h
  exact pseudo_covered_p.calls a0 a1 r w hk

/-! ### pseudo_sum_p: function 21 -/
def pseudo_sum_p.f (a0 : Int) (a1 : Int) (a2 : Int) (a3 : ByteArray) : Option (Int) := (cksum_Fold.f (IntKind.u64.wrap ((IntKind.u64.wrap ((IntKind.u64.wrap ((IntKind.u64.wrap ((IntKind.u64.wrap ((IntKind.u64.wrap (a1 / 65536)) + (IntKind.u64.wrap (Go.bits .and .u32 a1 65535)))) + (IntKind.u64.wrap (a2 / 65536)))) + (IntKind.u64.wrap (Go.bits .and .u32 a2 65535)))) + (IntKind.u64.wrap (a0)))) + (IntKind.u64.wrap (Go.bits .and .i64 (a3.size : Int) 65535))))).bind fun t114 => ((cksum_Sum.f a3).bind fun t115 => ((cksum_Join.f (([t114, t115] : List Int))).bind fun t119 => (some t119)))
set_option maxHeartbeats 8000000 in
set_option maxRecDepth 100000 in
theorem pseudo_sum_p.calls (a0 : Int) (a1 : Int) (a2 : Int) (a3 : ByteArray) (r : Int) (w : World) (h : pseudo_sum_p.f a0 a1 a2 a3 = some r) :
    Calls Try.prog 21 #[.int .i64 a0, .int .u32 a1, .int .u32 a2, .string a3] w fun e w' => e = .returned (.int .u16 r) ∧ Below w.heap.size w w' := by
  have HB := Aside0.mk (Below.refl w.heap.size w)
  have H : ((cksum_Fold.f (IntKind.u64.wrap ((IntKind.u64.wrap ((IntKind.u64.wrap ((IntKind.u64.wrap ((IntKind.u64.wrap ((IntKind.u64.wrap (a1 / 65536)) + (IntKind.u64.wrap (Go.bits .and .u32 a1 65535)))) + (IntKind.u64.wrap (a2 / 65536)))) + (IntKind.u64.wrap (Go.bits .and .u32 a2 65535)))) + (IntKind.u64.wrap (a0)))) + (IntKind.u64.wrap (Go.bits .and .i64 (a3.size : Int) 65535))))).bind fun t114 => ((cksum_Sum.f a3).bind fun t115 => ((cksum_Join.f (([t114, t115] : List Int))).bind fun t119 => (some t119)))) = some r := h
  clear h
  replace H := Option.bind_eq_some_iff.mp H
  obtain ⟨t114, A50, H⟩ := H
  replace H : ((cksum_Sum.f a3).bind fun t115 => ((cksum_Join.f (([t114, t115] : List Int))).bind fun t119 => (some t119))) = some r := H
  have A5 := Aside0.mk A50
  clear A50
  replace H := Option.bind_eq_some_iff.mp H
  obtain ⟨t115, A60, H⟩ := H
  replace H : ((cksum_Join.f (([t114, t115] : List Int))).bind fun t119 => (some t119)) = some r := H
  have A6 := Aside0.mk A60
  clear A60
  obtain ⟨y116, hy116⟩ : ∃ y_ : List Int, y_ = (([t114, t115] : List Int)) := ⟨_, rfl⟩
  replace H : ((cksum_Join.f y116).bind fun t119 => (some t119)) = some r := by first | (rw [hy116]; with_reducible exact H) | (have H2_ := (Option.bind_some _ _).symm.trans H; rw [hy116]; with_reducible exact H2_) | (have H2_ := (Option.bind_some _ _).symm.trans H; with_reducible exact H2_) | with_reducible exact H | (rw [hy116]; exact H) | exact H
  have Ny116 := Aside0.mk hy116
  clear hy116
  replace H := Option.bind_eq_some_iff.mp H
  obtain ⟨t119, A70, H⟩ := H
  replace H : (some t119) = some r := H
  have A7 := Aside0.mk A70
  clear A70
  obtain rfl := Option.some.inj H
  go_enter Try.func21, Try.ntmps21
  go_wp2_with (first | ((with_reducible refine gate_callee (f := 34) rfl ?_); refine goesL_ (some 34) rfl rfl Try.func34 (by kernel_rfl) rfl #[.int .u64 (IntKind.u64.wrap ((IntKind.u64.wrap ((IntKind.u64.wrap ((IntKind.u64.wrap ((IntKind.u64.wrap ((IntKind.u64.wrap (a1 / 65536)) + (IntKind.u64.wrap (Go.bits .and .u32 a1 65535)))) + (IntKind.u64.wrap (a2 / 65536)))) + (IntKind.u64.wrap (Go.bits .and .u32 a2 65535)))) + (IntKind.u64.wrap (a0)))) + (IntKind.u64.wrap (Go.bits .and .i64 (a3.size : Int) 65535))))] rfl (by (try simp only [List.map_toArray, List.map_cons, List.map_nil]); first | done | rfl | (simp only [List.length_drop, List.length_take]; rfl)) ?_; (with_reducible refine (cksum_Fold.calls (IntKind.u64.wrap ((IntKind.u64.wrap ((IntKind.u64.wrap ((IntKind.u64.wrap ((IntKind.u64.wrap ((IntKind.u64.wrap (a1 / 65536)) + (IntKind.u64.wrap (Go.bits .and .u32 a1 65535)))) + (IntKind.u64.wrap (a2 / 65536)))) + (IntKind.u64.wrap (Go.bits .and .u32 a2 65535)))) + (IntKind.u64.wrap (a0)))) + (IntKind.u64.wrap (Go.bits .and .i64 (a3.size : Int) 65535)))) t114 _ A5.out).mono ?_); rintro e w' ⟨rfl, ⟨nd, rfl⟩⟩; refine ⟨_, rfl, ?_⟩) | ((with_reducible refine gate_callee (f := 35) rfl ?_); refine goesL_ (some 36) rfl rfl Try.func35 (by kernel_rfl) rfl #[.string a3] rfl (by (try simp only [List.map_toArray, List.map_cons, List.map_nil]); first | done | rfl | (simp only [List.length_drop, List.length_take]; rfl)) ?_; (with_reducible refine (cksum_Sum.calls a3 t115 _ A6.out).mono ?_); rintro e w8 ⟨rfl, hb⟩; (try clear A6); refine ⟨_, rfl, ?_⟩; have n0_ := Aside0.mk (below_step (by repeat (first | (with_reducible first | exact HB.out | apply below_alloc | apply pw_below_drewN | apply below_drew1) | exact HB.out)) hb); clear HB; have HB := n0_; clear n0_; (try clear hb); (try clear hb2); (try clear hk); (try clear hi)) | ((with_reducible refine gate_dst (N := 37) rfl ?_); refine Kd.R_lit (Kd.int .u16) _ 24 ?hg (N := 37) ?hd (xs := ([t114, t115] : List Int)) (inner := [.int .u16 t114, .int .u16 t115]) (ok := fun _ => True) (okp := fun _ => True) ?hr ?hp (fun _ hk => hk) trivial (Below.refl _ _) (Nat.le_refl _) (by simp) ?_; (case hd => rfl); (case hg => rfl); (case hr => first | (go_simp; done) | (go_simp; rfl)); (case hp => exact (Reps.one (show Kd.M (Kd.int .u16) _ _ _ t114 [.int .u16 t114] from rfl) (Reps.one (show Kd.M (Kd.int .u16) _ _ _ t115 [.int .u16 t115] from rfl) (Reps.none _ _)))); intro v117 w9 ho10 hb hg_ hnew_; clear hg_ hnew_; (first | rw [← Ny116.out] at ho10 | (simp only [Int.reduceToNat] at ho10; rw [← Ny116.out] at ho10)); have n0_ := Aside0.mk (Kd.R_lower ho10 (below_size (by repeat (first | (with_reducible first | exact HB.out | apply below_alloc | apply pw_below_drewN | apply below_drew1) | exact HB.out)))); have n1_ := Aside0.mk (below_step (by repeat (first | (with_reducible first | exact HB.out | apply below_alloc | apply pw_below_drewN | apply below_drew1) | exact HB.out)) hb); clear HB; have HO118 := n0_; have HB := n1_; clear n0_ n1_; clear hb ho10; obtain ⟨Ao11, co11, eo11⟩ := Kd.R_slice HO118.out; subst eo11) | ((with_reducible refine gate_callee (f := 33) rfl ?_); refine goesL_ (some 38) rfl rfl Try.func33 (by kernel_rfl) rfl #[.slice Ao11 y116.length co11] rfl (by (try simp only [List.map_toArray, List.map_cons, List.map_nil]); first | done | rfl | (simp only [List.length_drop, List.length_take]; rfl)) ?_; (with_reducible refine (cksum_Join.calls _ _ y116 t119 _ ?side1 ?side2 A7.out).mono ?_); (case side1 => repeat (first | exact (Kd.R_reads' HO118.out).2.2 | (with_reducible refine Kd.C_alloc ?_ _) | (with_reducible refine Kd.C_drewN ?_ _) | (with_reducible refine Kd.C_drew ?_))); (case side2 => exact (Kd.R_reads' HO118.out).2.1); rintro e w' ⟨rfl, ⟨nd, rfl⟩⟩; refine ⟨_, rfl, ?_⟩))
  go_ret
  exact ⟨by first | rfl | (simp [errW_none, errW_some] <;> rfl) | (simp [*, errW_none, errW_some] <;> rfl), by repeat (first | (with_reducible first | exact HB.out | apply below_alloc | apply pw_below_drewN | apply below_drew1) | exact HB.out)⟩

theorem ps_and32 {n : Int} (h0 : 0 ≤ n) (h1 : n ≤ 4294967295) : Go.bits .and .u32 n 65535 = n % 65536 :=
  bits_mask .u32 32 (by decide) (fun n a b => IntWalk.u32_in n ⟨a, by omega⟩) 16 (by decide) n h0 (by omega)
theorem ps_and64 {n : Int} (h0 : 0 ≤ n) (h1 : n ≤ 9223372036854775807) : Go.bits .and .i64 n 65535 = n % 65536 :=
  bits_mask .i64 63 (by decide) (fun n a b => by rw [IntKind.wrap_i64]; omega) 16 (by decide) n h0 (by omega)
def p32 (n : Int) : Bool := decide (0 ≤ n ∧ n ≤ 4294967295)
theorem p32_iff {n : Int} : p32 n = true ↔ 0 ≤ n ∧ n ≤ 4294967295 := decide_eq_true_iff
def pseudo_sum.f (a0 a1 a2 : Int) (a3 : ByteArray) : Option Int := if (Sp.place a0).2 = true ∧ p32 a1 = true ∧ p32 a2 = true ∧ a3.size ≤ big then some (Sp.psum a0 a1 a2 (bl a3)) else none
theorem pseudo_sum_eq {a0 a1 a2 : Int} {a3 : ByteArray} (hp : (Sp.place a0).2 = true) (h1 : 0 ≤ a1 ∧ a1 ≤ 4294967295) (h2 : 0 ≤ a2 ∧ a2 ≤ 4294967295) (h : a3.size ≤ 281474976710656) : pseudo_sum.f a0 a1 a2 a3 = some (Sp.psum a0 a1 a2 (bl a3)) := by
  unfold pseudo_sum.f; exact if_pos ⟨hp, p32_iff.2 h1, p32_iff.2 h2, h⟩
theorem pseudo_sum_ev (a0 a1 a2 : Int) (a3 : ByteArray) (r : Int) (h : pseudo_sum.f a0 a1 a2 a3 = some r) : pseudo_sum_p.f a0 a1 a2 a3 = some r := by
  unfold pseudo_sum.f at h
  split at h
  case isFalse => cases h
  case isTrue hs =>
    obtain ⟨hp, h1, h2, h3⟩ := hs
    have h1 := p32_iff.1 h1
    have h2 := p32_iff.1 h2
    unfold big at h3
    have hb := Sp.hsum_bounds (n := (a3.size : Int)) hp h1 h2
    have hp' : 0 ≤ a0 ∧ a0 ≤ 17 := by
      rcases Sp.place_cases a0 with ⟨e, _⟩ | ⟨e, _⟩ | ⟨_, _, e⟩
      · omega
      · omega
      · rw [e] at hp; cases hp
    have hw := Sp.wsum_bounds (Sp.wl (bl a3))
    have hq := Sp.sum_bounds (bl a3)
    have hf := Sp.fold16_bounds hb.1
    rw [← h]
    unfold pseudo_sum_p.f
    rw [ps_and32 h1.1 h1.2, ps_and32 h2.1 h2.2, ps_and64 (by omega) (by omega), wrap_u64 (n := a1 / 65536) (by omega) (by omega), wrap_u64 (n := a1 % 65536) (by omega) (by omega), wrap_u64 (n := a2 / 65536) (by omega) (by omega), wrap_u64 (n := a2 % 65536) (by omega) (by omega),
      wrap_u64 (n := a0) (by omega) (by omega), wrap_u64 (n := (a3.size : Int) % 65536) (by omega) (by omega), wrap_u64 (n := a1 / 65536 + a1 % 65536) (by omega) (by omega), wrap_u64 (n := a1 / 65536 + a1 % 65536 + a2 / 65536) (by omega) (by omega),
      wrap_u64 (n := a1 / 65536 + a1 % 65536 + a2 / 65536 + a2 % 65536) (by omega) (by omega), wrap_u64 (n := a1 / 65536 + a1 % 65536 + a2 / 65536 + a2 % 65536 + a0) (by omega) (by omega), wrap_u64 (by omega) (by omega)]
    rw [show a1 / 65536 + a1 % 65536 + a2 / 65536 + a2 % 65536 + a0 + (a3.size : Int) % 65536 = Sp.hsum a0 a1 a2 (a3.size : Int) from rfl, cksum_Fold_eq hb.1 (by omega), Option.bind_some, cksum_Sum_eq h3, Option.bind_some,
      cksum_Join_eq (by simp) (by intro x hx; simp at hx; omega), Option.bind_some]
    have e : Sp.join [Sp.fold16 (Sp.hsum a0 a1 a2 (a3.size : Int)), Sp.sum (bl a3)] = Sp.psum a0 a1 a2 (bl a3) := by
      unfold Sp.join Sp.psum Sp.sum
      rw [bl_length, ← Sp.fold16_add hb.1 hw.1]
      simp
    rw [e]
theorem pseudo_sum.calls (a0 : Int) (a1 : Int) (a2 : Int) (a3 : ByteArray) (r : Int) (w : World) (h : pseudo_sum.f a0 a1 a2 a3 = some r) :
    Calls Try.prog 21 #[.int .i64 a0, .int .u32 a1, .int .u32 a2, .string a3] w fun e w' => e = .returned (.int .u16 r) ∧ Below w.heap.size w w' := by
  have hk := pseudo_sum_ev a0 a1 a2 a3 _ h
  exact pseudo_sum_p.calls a0 a1 a2 a3 r w hk

/-! ### pseudo_Check_p: function 10 -/
def pseudo_Check_p.f (a0 : Int) (a1 : Int) (a2 : Int) (a3 : ByteArray) : Option (Int × Bool) := (pseudo_Place.f a0).bind fun bt120 => (if bt120.2 = true then ((pseudo_covered.f a0 a3).bind fun t122 => ((octet_Set.f t122 bt120.1 2 0).bind fun bt123 => (if bt123.2 = true then ((pseudo_sum.f a0 a1 a2 bt123.1).bind fun t125 => (if a0 = 17 then (if (Go.bits .xor .u16 65535 t125) = 0 then (some (65535, true)) else (some (Go.bits .xor .u16 65535 t125, true))) else (some (Go.bits .xor .u16 65535 t125, true)))) else (some (0, false))))) else (some (0, false)))
set_option maxHeartbeats 8000000 in
set_option maxRecDepth 100000 in
theorem pseudo_Check_p.calls (a0 : Int) (a1 : Int) (a2 : Int) (a3 : ByteArray) (r1 : Int) (r2 : Bool) (w : World) (h : pseudo_Check_p.f a0 a1 a2 a3 = some (r1, r2)) :
    Calls Try.prog 10 #[.int .i64 a0, .int .u32 a1, .int .u32 a2, .string a3] w fun e w' => e = .returned (.tuple #[.int .u16 r1, .bool r2]) ∧ Below w.heap.size w w' := by
  have HB := Aside0.mk (Below.refl w.heap.size w)
  have H : ((pseudo_Place.f a0).bind fun bt120 => (if bt120.2 = true then ((pseudo_covered.f a0 a3).bind fun t122 => ((octet_Set.f t122 bt120.1 2 0).bind fun bt123 => (if bt123.2 = true then ((pseudo_sum.f a0 a1 a2 bt123.1).bind fun t125 => (if a0 = 17 then (if (Go.bits .xor .u16 65535 t125) = 0 then (some (65535, true)) else (some (Go.bits .xor .u16 65535 t125, true))) else (some (Go.bits .xor .u16 65535 t125, true)))) else (some (0, false))))) else (some (0, false)))) = some (r1, r2) := h
  clear h
  replace H := Option.bind_eq_some_iff.mp H
  obtain ⟨⟨t120, t121⟩, A50, H⟩ := H
  replace H : (if t121 = true then ((pseudo_covered.f a0 a3).bind fun t122 => ((octet_Set.f t122 t120 2 0).bind fun bt123 => (if bt123.2 = true then ((pseudo_sum.f a0 a1 a2 bt123.1).bind fun t125 => (if a0 = 17 then (if (Go.bits .xor .u16 65535 t125) = 0 then (some (65535, true)) else (some (Go.bits .xor .u16 65535 t125, true))) else (some (Go.bits .xor .u16 65535 t125, true)))) else (some (0, false))))) else (some (0, false))) = some (r1, r2) := H
  have A5 := Aside0.mk A50
  clear A50
  by_cases c6 : t121 = true
  · subst c6
    have H1 : ((pseudo_covered.f a0 a3).bind fun t122 => ((octet_Set.f t122 t120 2 0).bind fun bt123 => (if bt123.2 = true then ((pseudo_sum.f a0 a1 a2 bt123.1).bind fun t125 => (if a0 = 17 then (if (Go.bits .xor .u16 65535 t125) = 0 then (some (65535, true)) else (some (Go.bits .xor .u16 65535 t125, true))) else (some (Go.bits .xor .u16 65535 t125, true)))) else (some (0, false))))) = some (r1, r2) := by first | (rw [if_pos rfl] at H; exact H) | (rw [if_pos trivial] at H; exact H)
    clear H
    have H := H1
    clear H1
    replace H := Option.bind_eq_some_iff.mp H
    obtain ⟨t122, A70, H⟩ := H
    replace H : ((octet_Set.f t122 t120 2 0).bind fun bt123 => (if bt123.2 = true then ((pseudo_sum.f a0 a1 a2 bt123.1).bind fun t125 => (if a0 = 17 then (if (Go.bits .xor .u16 65535 t125) = 0 then (some (65535, true)) else (some (Go.bits .xor .u16 65535 t125, true))) else (some (Go.bits .xor .u16 65535 t125, true)))) else (some (0, false)))) = some (r1, r2) := H
    have A7 := Aside0.mk A70
    clear A70
    replace H := Option.bind_eq_some_iff.mp H
    obtain ⟨⟨t123, t124⟩, A80, H⟩ := H
    replace H : (if t124 = true then ((pseudo_sum.f a0 a1 a2 t123).bind fun t125 => (if a0 = 17 then (if (Go.bits .xor .u16 65535 t125) = 0 then (some (65535, true)) else (some (Go.bits .xor .u16 65535 t125, true))) else (some (Go.bits .xor .u16 65535 t125, true)))) else (some (0, false))) = some (r1, r2) := H
    have A8 := Aside0.mk A80
    clear A80
    by_cases c9 : t124 = true
    · subst c9
      have H1 : ((pseudo_sum.f a0 a1 a2 t123).bind fun t125 => (if a0 = 17 then (if (Go.bits .xor .u16 65535 t125) = 0 then (some (65535, true)) else (some (Go.bits .xor .u16 65535 t125, true))) else (some (Go.bits .xor .u16 65535 t125, true)))) = some (r1, r2) := by first | (rw [if_pos rfl] at H; exact H) | (rw [if_pos trivial] at H; exact H)
      clear H
      have H := H1
      clear H1
      replace H := Option.bind_eq_some_iff.mp H
      obtain ⟨t125, A100, H⟩ := H
      replace H : (if a0 = 17 then (if (Go.bits .xor .u16 65535 t125) = 0 then (some (65535, true)) else (some (Go.bits .xor .u16 65535 t125, true))) else (some (Go.bits .xor .u16 65535 t125, true))) = some (r1, r2) := H
      have A10 := Aside0.mk A100
      clear A100
      by_cases c11 : a0 = 17
      · rw [if_pos c11] at H
        have c11b0 : (a0 == 17) = true := beq_iff_eq.mpr c11
        have c11b1 : (a0 != 17) = false := bne_eq_false_iff_eq.mpr c11
        clear c11
        by_cases c12 : (Go.bits .xor .u16 65535 t125) = 0
        · rw [if_pos c12] at H
          have c12b0 : ((Go.bits .xor .u16 65535 t125) == 0) = true := beq_iff_eq.mpr c12
          have c12b1 : ((Go.bits .xor .u16 65535 t125) != 0) = false := bne_eq_false_iff_eq.mpr c12
          clear c12
          simp only [Option.some.injEq, Prod.mk.injEq] at H
          obtain ⟨rfl, rfl⟩ := H
          go_enter Try.func10, Try.ntmps10
          go_wp2_with (first | ((with_reducible refine gate_callee (f := 14) rfl ?_); refine goesL_ (some 16) rfl rfl Try.func14 (by kernel_rfl) rfl #[.int .i64 a0] rfl (by (try simp only [List.map_toArray, List.map_cons, List.map_nil]); first | done | rfl | (simp only [List.length_drop, List.length_take]; rfl)) ?_; (with_reducible refine (pseudo_Place.calls a0 t120 true _ A5.out).mono ?_); rintro e w13 ⟨rfl, hb⟩; (try clear A5); refine ⟨_, rfl, ?_⟩; have n0_ := Aside0.mk (below_step (by repeat (first | (with_reducible first | exact HB.out | apply below_alloc | apply pw_below_drewN | apply below_drew1) | exact HB.out)) hb); clear HB; have HB := n0_; clear n0_; (try clear hb); (try clear hb2); (try clear hk); (try clear hi)) | ((with_reducible refine gate_callee (f := 20) rfl ?_); refine goesL_ (some 24) rfl rfl Try.func20 (by kernel_rfl) rfl #[.int .i64 a0, .string a3] rfl (by (try simp only [List.map_toArray, List.map_cons, List.map_nil]); first | done | rfl | (simp only [List.length_drop, List.length_take]; rfl)) ?_; (with_reducible refine (pseudo_covered.calls a0 a3 t122 _ A7.out).mono ?_); rintro e w14 ⟨rfl, hb⟩; (try clear A7); refine ⟨_, rfl, ?_⟩; have n0_ := Aside0.mk (below_step (by repeat (first | (with_reducible first | exact HB.out | apply below_alloc | apply pw_below_drewN | apply below_drew1) | exact HB.out)) hb); clear HB; have HB := n0_; clear n0_; (try clear hb); (try clear hb2); (try clear hk); (try clear hi)) | ((with_reducible refine gate_callee (f := 19) rfl ?_); refine goesL_ (some 26) rfl rfl Try.func19 (by kernel_rfl) rfl #[.string t122, .int .i64 t120, .int .i64 2, .int .i64 0] rfl (by (try simp only [List.map_toArray, List.map_cons, List.map_nil]); first | done | rfl | (simp only [List.length_drop, List.length_take]; rfl)) ?_; (with_reducible refine (octet_Set.calls t122 t120 2 0 t123 true _ A8.out).mono ?_); rintro e w15 ⟨rfl, hb⟩; (try clear A8); refine ⟨_, rfl, ?_⟩; have n0_ := Aside0.mk (below_step (by repeat (first | (with_reducible first | exact HB.out | apply below_alloc | apply pw_below_drewN | apply below_drew1) | exact HB.out)) hb); clear HB; have HB := n0_; clear n0_; (try clear hb); (try clear hb2); (try clear hk); (try clear hi)) | ((with_reducible refine gate_callee (f := 21) rfl ?_); refine goesL_ (some 35) rfl rfl Try.func21 (by kernel_rfl) rfl #[.int .i64 a0, .int .u32 a1, .int .u32 a2, .string t123] rfl (by (try simp only [List.map_toArray, List.map_cons, List.map_nil]); first | done | rfl | (simp only [List.length_drop, List.length_take]; rfl)) ?_; (with_reducible refine (pseudo_sum.calls a0 a1 a2 t123 t125 _ A10.out).mono ?_); rintro e w16 ⟨rfl, hb⟩; (try clear A10); refine ⟨_, rfl, ?_⟩; have n0_ := Aside0.mk (below_step (by repeat (first | (with_reducible first | exact HB.out | apply below_alloc | apply pw_below_drewN | apply below_drew1) | exact HB.out)) hb); clear HB; have HB := n0_; clear n0_; (try clear hb); (try clear hb2); (try clear hk); (try clear hi)))
          go_ret2
          exact ⟨by first | rfl | (simp [errW_none, errW_some] <;> rfl) | (simp [*, errW_none, errW_some] <;> rfl), by repeat (first | (with_reducible first | exact HB.out | apply below_alloc | apply pw_below_drewN | apply below_drew1) | exact HB.out)⟩
        · rw [if_neg c12] at H
          have c12b0 : ((Go.bits .xor .u16 65535 t125) == 0) = false := beq_eq_false_iff_ne.mpr c12
          have c12b1 : ((Go.bits .xor .u16 65535 t125) != 0) = true := bne_iff_ne.mpr c12
          simp only [Option.some.injEq, Prod.mk.injEq] at H
          obtain ⟨rfl, rfl⟩ := H
          go_enter Try.func10, Try.ntmps10
          go_wp2_with (first | ((with_reducible refine gate_callee (f := 14) rfl ?_); refine goesL_ (some 16) rfl rfl Try.func14 (by kernel_rfl) rfl #[.int .i64 a0] rfl (by (try simp only [List.map_toArray, List.map_cons, List.map_nil]); first | done | rfl | (simp only [List.length_drop, List.length_take]; rfl)) ?_; (with_reducible refine (pseudo_Place.calls a0 t120 true _ A5.out).mono ?_); rintro e w17 ⟨rfl, hb⟩; (try clear A5); refine ⟨_, rfl, ?_⟩; have n0_ := Aside0.mk (below_step (by repeat (first | (with_reducible first | exact HB.out | apply below_alloc | apply pw_below_drewN | apply below_drew1) | exact HB.out)) hb); clear HB; have HB := n0_; clear n0_; (try clear hb); (try clear hb2); (try clear hk); (try clear hi)) | ((with_reducible refine gate_callee (f := 20) rfl ?_); refine goesL_ (some 24) rfl rfl Try.func20 (by kernel_rfl) rfl #[.int .i64 a0, .string a3] rfl (by (try simp only [List.map_toArray, List.map_cons, List.map_nil]); first | done | rfl | (simp only [List.length_drop, List.length_take]; rfl)) ?_; (with_reducible refine (pseudo_covered.calls a0 a3 t122 _ A7.out).mono ?_); rintro e w18 ⟨rfl, hb⟩; (try clear A7); refine ⟨_, rfl, ?_⟩; have n0_ := Aside0.mk (below_step (by repeat (first | (with_reducible first | exact HB.out | apply below_alloc | apply pw_below_drewN | apply below_drew1) | exact HB.out)) hb); clear HB; have HB := n0_; clear n0_; (try clear hb); (try clear hb2); (try clear hk); (try clear hi)) | ((with_reducible refine gate_callee (f := 19) rfl ?_); refine goesL_ (some 26) rfl rfl Try.func19 (by kernel_rfl) rfl #[.string t122, .int .i64 t120, .int .i64 2, .int .i64 0] rfl (by (try simp only [List.map_toArray, List.map_cons, List.map_nil]); first | done | rfl | (simp only [List.length_drop, List.length_take]; rfl)) ?_; (with_reducible refine (octet_Set.calls t122 t120 2 0 t123 true _ A8.out).mono ?_); rintro e w19 ⟨rfl, hb⟩; (try clear A8); refine ⟨_, rfl, ?_⟩; have n0_ := Aside0.mk (below_step (by repeat (first | (with_reducible first | exact HB.out | apply below_alloc | apply pw_below_drewN | apply below_drew1) | exact HB.out)) hb); clear HB; have HB := n0_; clear n0_; (try clear hb); (try clear hb2); (try clear hk); (try clear hi)) | ((with_reducible refine gate_callee (f := 21) rfl ?_); refine goesL_ (some 35) rfl rfl Try.func21 (by kernel_rfl) rfl #[.int .i64 a0, .int .u32 a1, .int .u32 a2, .string t123] rfl (by (try simp only [List.map_toArray, List.map_cons, List.map_nil]); first | done | rfl | (simp only [List.length_drop, List.length_take]; rfl)) ?_; (with_reducible refine (pseudo_sum.calls a0 a1 a2 t123 t125 _ A10.out).mono ?_); rintro e w20 ⟨rfl, hb⟩; (try clear A10); refine ⟨_, rfl, ?_⟩; have n0_ := Aside0.mk (below_step (by repeat (first | (with_reducible first | exact HB.out | apply below_alloc | apply pw_below_drewN | apply below_drew1) | exact HB.out)) hb); clear HB; have HB := n0_; clear n0_; (try clear hb); (try clear hb2); (try clear hk); (try clear hi)))
          go_ret2
          exact ⟨by first | rfl | (simp [errW_none, errW_some] <;> rfl) | (simp [*, errW_none, errW_some] <;> rfl), by repeat (first | (with_reducible first | exact HB.out | apply below_alloc | apply pw_below_drewN | apply below_drew1) | exact HB.out)⟩
      · rw [if_neg c11] at H
        have c11b0 : (a0 == 17) = false := beq_eq_false_iff_ne.mpr c11
        have c11b1 : (a0 != 17) = true := bne_iff_ne.mpr c11
        simp only [Option.some.injEq, Prod.mk.injEq] at H
        obtain ⟨rfl, rfl⟩ := H
        go_enter Try.func10, Try.ntmps10
        go_wp2_with (first | ((with_reducible refine gate_callee (f := 14) rfl ?_); refine goesL_ (some 16) rfl rfl Try.func14 (by kernel_rfl) rfl #[.int .i64 a0] rfl (by (try simp only [List.map_toArray, List.map_cons, List.map_nil]); first | done | rfl | (simp only [List.length_drop, List.length_take]; rfl)) ?_; (with_reducible refine (pseudo_Place.calls a0 t120 true _ A5.out).mono ?_); rintro e w21 ⟨rfl, hb⟩; (try clear A5); refine ⟨_, rfl, ?_⟩; have n0_ := Aside0.mk (below_step (by repeat (first | (with_reducible first | exact HB.out | apply below_alloc | apply pw_below_drewN | apply below_drew1) | exact HB.out)) hb); clear HB; have HB := n0_; clear n0_; (try clear hb); (try clear hb2); (try clear hk); (try clear hi)) | ((with_reducible refine gate_callee (f := 20) rfl ?_); refine goesL_ (some 24) rfl rfl Try.func20 (by kernel_rfl) rfl #[.int .i64 a0, .string a3] rfl (by (try simp only [List.map_toArray, List.map_cons, List.map_nil]); first | done | rfl | (simp only [List.length_drop, List.length_take]; rfl)) ?_; (with_reducible refine (pseudo_covered.calls a0 a3 t122 _ A7.out).mono ?_); rintro e w22 ⟨rfl, hb⟩; (try clear A7); refine ⟨_, rfl, ?_⟩; have n0_ := Aside0.mk (below_step (by repeat (first | (with_reducible first | exact HB.out | apply below_alloc | apply pw_below_drewN | apply below_drew1) | exact HB.out)) hb); clear HB; have HB := n0_; clear n0_; (try clear hb); (try clear hb2); (try clear hk); (try clear hi)) | ((with_reducible refine gate_callee (f := 19) rfl ?_); refine goesL_ (some 26) rfl rfl Try.func19 (by kernel_rfl) rfl #[.string t122, .int .i64 t120, .int .i64 2, .int .i64 0] rfl (by (try simp only [List.map_toArray, List.map_cons, List.map_nil]); first | done | rfl | (simp only [List.length_drop, List.length_take]; rfl)) ?_; (with_reducible refine (octet_Set.calls t122 t120 2 0 t123 true _ A8.out).mono ?_); rintro e w23 ⟨rfl, hb⟩; (try clear A8); refine ⟨_, rfl, ?_⟩; have n0_ := Aside0.mk (below_step (by repeat (first | (with_reducible first | exact HB.out | apply below_alloc | apply pw_below_drewN | apply below_drew1) | exact HB.out)) hb); clear HB; have HB := n0_; clear n0_; (try clear hb); (try clear hb2); (try clear hk); (try clear hi)) | ((with_reducible refine gate_callee (f := 21) rfl ?_); refine goesL_ (some 35) rfl rfl Try.func21 (by kernel_rfl) rfl #[.int .i64 a0, .int .u32 a1, .int .u32 a2, .string t123] rfl (by (try simp only [List.map_toArray, List.map_cons, List.map_nil]); first | done | rfl | (simp only [List.length_drop, List.length_take]; rfl)) ?_; (with_reducible refine (pseudo_sum.calls a0 a1 a2 t123 t125 _ A10.out).mono ?_); rintro e w24 ⟨rfl, hb⟩; (try clear A10); refine ⟨_, rfl, ?_⟩; have n0_ := Aside0.mk (below_step (by repeat (first | (with_reducible first | exact HB.out | apply below_alloc | apply pw_below_drewN | apply below_drew1) | exact HB.out)) hb); clear HB; have HB := n0_; clear n0_; (try clear hb); (try clear hb2); (try clear hk); (try clear hi)))
        go_ret2
        exact ⟨by first | rfl | (simp [errW_none, errW_some] <;> rfl) | (simp [*, errW_none, errW_some] <;> rfl), by repeat (first | (with_reducible first | exact HB.out | apply below_alloc | apply pw_below_drewN | apply below_drew1) | exact HB.out)⟩
    · replace c9 := Bool.eq_false_iff.mpr c9
      subst c9
      have H1 : (some (0, false)) = some (r1, r2) := by rw [if_neg (show ¬ (false = true) by decide)] at H; exact H
      clear H
      have H := H1
      clear H1
      simp only [Option.some.injEq, Prod.mk.injEq] at H
      obtain ⟨rfl, rfl⟩ := H
      go_enter Try.func10, Try.ntmps10
      go_wp2_with (first | ((with_reducible refine gate_callee (f := 14) rfl ?_); refine goesL_ (some 16) rfl rfl Try.func14 (by kernel_rfl) rfl #[.int .i64 a0] rfl (by (try simp only [List.map_toArray, List.map_cons, List.map_nil]); first | done | rfl | (simp only [List.length_drop, List.length_take]; rfl)) ?_; (with_reducible refine (pseudo_Place.calls a0 t120 true _ A5.out).mono ?_); rintro e w25 ⟨rfl, hb⟩; (try clear A5); refine ⟨_, rfl, ?_⟩; have n0_ := Aside0.mk (below_step (by repeat (first | (with_reducible first | exact HB.out | apply below_alloc | apply pw_below_drewN | apply below_drew1) | exact HB.out)) hb); clear HB; have HB := n0_; clear n0_; (try clear hb); (try clear hb2); (try clear hk); (try clear hi)) | ((with_reducible refine gate_callee (f := 20) rfl ?_); refine goesL_ (some 24) rfl rfl Try.func20 (by kernel_rfl) rfl #[.int .i64 a0, .string a3] rfl (by (try simp only [List.map_toArray, List.map_cons, List.map_nil]); first | done | rfl | (simp only [List.length_drop, List.length_take]; rfl)) ?_; (with_reducible refine (pseudo_covered.calls a0 a3 t122 _ A7.out).mono ?_); rintro e w26 ⟨rfl, hb⟩; (try clear A7); refine ⟨_, rfl, ?_⟩; have n0_ := Aside0.mk (below_step (by repeat (first | (with_reducible first | exact HB.out | apply below_alloc | apply pw_below_drewN | apply below_drew1) | exact HB.out)) hb); clear HB; have HB := n0_; clear n0_; (try clear hb); (try clear hb2); (try clear hk); (try clear hi)) | ((with_reducible refine gate_callee (f := 19) rfl ?_); refine goesL_ (some 26) rfl rfl Try.func19 (by kernel_rfl) rfl #[.string t122, .int .i64 t120, .int .i64 2, .int .i64 0] rfl (by (try simp only [List.map_toArray, List.map_cons, List.map_nil]); first | done | rfl | (simp only [List.length_drop, List.length_take]; rfl)) ?_; (with_reducible refine (octet_Set.calls t122 t120 2 0 t123 false _ A8.out).mono ?_); rintro e w27 ⟨rfl, hb⟩; (try clear A8); refine ⟨_, rfl, ?_⟩; have n0_ := Aside0.mk (below_step (by repeat (first | (with_reducible first | exact HB.out | apply below_alloc | apply pw_below_drewN | apply below_drew1) | exact HB.out)) hb); clear HB; have HB := n0_; clear n0_; (try clear hb); (try clear hb2); (try clear hk); (try clear hi)))
      go_ret2
      exact ⟨by first | rfl | (simp [errW_none, errW_some] <;> rfl) | (simp [*, errW_none, errW_some] <;> rfl), by repeat (first | (with_reducible first | exact HB.out | apply below_alloc | apply pw_below_drewN | apply below_drew1) | exact HB.out)⟩
  · replace c6 := Bool.eq_false_iff.mpr c6
    subst c6
    have H1 : (some (0, false)) = some (r1, r2) := by rw [if_neg (show ¬ (false = true) by decide)] at H; exact H
    clear H
    have H := H1
    clear H1
    simp only [Option.some.injEq, Prod.mk.injEq] at H
    obtain ⟨rfl, rfl⟩ := H
    go_enter Try.func10, Try.ntmps10
    go_wp2_with (first | ((with_reducible refine gate_callee (f := 14) rfl ?_); refine goesL_ (some 16) rfl rfl Try.func14 (by kernel_rfl) rfl #[.int .i64 a0] rfl (by (try simp only [List.map_toArray, List.map_cons, List.map_nil]); first | done | rfl | (simp only [List.length_drop, List.length_take]; rfl)) ?_; (with_reducible refine (pseudo_Place.calls a0 t120 false _ A5.out).mono ?_); rintro e w28 ⟨rfl, hb⟩; (try clear A5); refine ⟨_, rfl, ?_⟩; have n0_ := Aside0.mk (below_step (by repeat (first | (with_reducible first | exact HB.out | apply below_alloc | apply pw_below_drewN | apply below_drew1) | exact HB.out)) hb); clear HB; have HB := n0_; clear n0_; (try clear hb); (try clear hb2); (try clear hk); (try clear hi)))
    go_ret2
    exact ⟨by first | rfl | (simp [errW_none, errW_some] <;> rfl) | (simp [*, errW_none, errW_some] <;> rfl), by repeat (first | (with_reducible first | exact HB.out | apply below_alloc | apply pw_below_drewN | apply below_drew1) | exact HB.out)⟩

theorem ps_not16 {x : Int} (h0 : 0 ≤ x) (h1 : x ≤ 65535) : Go.bits .xor .u16 65535 x = 65535 - x := by
  obtain ⟨a, rfl⟩ := Int.eq_ofNat_of_zero_le h0
  have ha : a < 65536 := by omega
  have e : BitVec.ofInt 16 65535 = BitVec.allOnes 16 := by decide
  show IntKind.u16.wrap (((BitVec.ofInt 16 65535 ^^^ BitVec.ofInt 16 (a : Int)).toNat : Nat) : Int) = 65535 - (a : Int)
  rw [e, BitVec.ofInt_natCast, BitVec.allOnes_xor, BitVec.toNat_not, BitVec.toNat_ofNat, Nat.mod_eq_of_lt (show a < 2 ^ 16 from ha), wrap_u16 (by omega) (by omega)]
  omega
def pdom (p a b : Int) (s : ByteArray) : Bool := i64in p && p32 a && p32 b && decide (s.size ≤ big)
theorem pdom_iff {p a b : Int} {s : ByteArray} : pdom p a b s = true ↔ (-9223372036854775808 ≤ p ∧ p ≤ 9223372036854775807) ∧ (0 ≤ a ∧ a ≤ 4294967295) ∧ (0 ≤ b ∧ b ≤ 4294967295) ∧ s.size ≤ 281474976710656 := by
  unfold pdom i64in p32 big; simp [and_assoc]
def pseudo_Check.f (a0 a1 a2 : Int) (a3 : ByteArray) : Option (Int × Bool) := if pdom a0 a1 a2 a3 = true then some (Sp.pcheck a0 a1 a2 (bl a3)) else none
theorem pseudo_Check_eq {a0 a1 a2 : Int} {a3 : ByteArray} (h0 : -9223372036854775808 ≤ a0 ∧ a0 ≤ 9223372036854775807) (h1 : 0 ≤ a1 ∧ a1 ≤ 4294967295) (h2 : 0 ≤ a2 ∧ a2 ≤ 4294967295) (h3 : a3.size ≤ 281474976710656) : pseudo_Check.f a0 a1 a2 a3 = some (Sp.pcheck a0 a1 a2 (bl a3)) := by
  unfold pseudo_Check.f; exact if_pos (pdom_iff.2 ⟨h0, h1, h2, h3⟩)
theorem pseudo_Check_ev (a0 a1 a2 : Int) (a3 : ByteArray) (r : Int × Bool) (h : pseudo_Check.f a0 a1 a2 a3 = some r) : pseudo_Check_p.f a0 a1 a2 a3 = some r := by
  unfold pseudo_Check.f at h
  split at h
  case isFalse => cases h
  case isTrue hs =>
    obtain ⟨h0, h1, h2, h3⟩ := pdom_iff.1 hs
    have hcl := Sp.cov_length a0 (bl a3)
    rw [bl_length] at hcl
    rw [← h]
    unfold pseudo_Check_p.f Sp.pcheck
    rw [pseudo_Place_eq h0.1 h0.2, Option.bind_some]
    by_cases hp : (Sp.place a0).2 = true
    · rw [if_pos hp, pseudo_covered_eq h3, Option.bind_some, octet_Set_eq _ _ _ _ (by rw [lb_size]; omega), Option.bind_some, bl_lb, show Sp.set (Sp.cov a0 (bl a3)) (Sp.place a0).1 2 0 = Sp.zeroed a0 (bl a3) from rfl]
      by_cases hz : (Sp.zeroed a0 (bl a3)).2 = true
      · have hzl : (Sp.zeroed a0 (bl a3)).1.length ≤ a3.size := Nat.le_trans (Sp.set_le _ _ _ _) hcl
        have hb := Sp.psum_bounds (s := (Sp.zeroed a0 (bl a3)).1) hp h1 h2
        rw [if_pos hz, if_pos ⟨hp, hz⟩]
        show (pseudo_sum.f a0 a1 a2 (lb (Sp.zeroed a0 (bl a3)).1)).bind _ = _
        rw [pseudo_sum_eq hp h1 h2 (by rw [lb_size]; omega), Option.bind_some, bl_lb, ps_not16 hb.1 hb.2]
        unfold Sp.pnum
        by_cases e1 : a0 = 17
        · rw [if_pos e1]
          by_cases e2 : 65535 - Sp.psum a0 a1 a2 (Sp.zeroed a0 (bl a3)).1 = 0
          · rw [if_pos e2, if_pos ⟨e1, e2⟩]
          · rw [if_neg e2, if_neg (fun h => e2 h.2)]
        · rw [if_neg e1, if_neg (fun h => e1 h.1)]
      · have hz' : ¬ ((lb (Sp.zeroed a0 (bl a3)).1, (Sp.zeroed a0 (bl a3)).2) : ByteArray × Bool).2 = true := hz
        rw [if_neg hz', if_neg (fun h => hz h.2)]
    · rw [if_neg hp, if_neg (fun h => hp h.1)]
theorem pseudo_Check.calls (a0 : Int) (a1 : Int) (a2 : Int) (a3 : ByteArray) (r1 : Int) (r2 : Bool) (w : World) (h : pseudo_Check.f a0 a1 a2 a3 = some (r1, r2)) :
    Calls Try.prog 10 #[.int .i64 a0, .int .u32 a1, .int .u32 a2, .string a3] w fun e w' => e = .returned (.tuple #[.int .u16 r1, .bool r2]) ∧ Below w.heap.size w w' := by
  have hk := pseudo_Check_ev a0 a1 a2 a3 _ h
  exact pseudo_Check_p.calls a0 a1 a2 a3 r1 r2 w hk

/-! ### pseudo_Fill_p: function 12 -/
def pseudo_Fill_p.f (a0 : Int) (a1 : Int) (a2 : Int) (a3 : ByteArray) : Option (ByteArray × Bool) := (pseudo_Check.f a0 a1 a2 a3).bind fun bt126 => (if bt126.2 = true then ((pseudo_Place.f a0).bind fun bt128 => ((octet_Set.f a3 bt128.1 2 (wrap64 (bt126.1))).bind fun bt130 => (some (bt130.1, bt130.2)))) else (some ((⟨#[]⟩ : ByteArray), false)))
set_option maxHeartbeats 8000000 in
set_option maxRecDepth 100000 in
theorem pseudo_Fill_p.calls (a0 : Int) (a1 : Int) (a2 : Int) (a3 : ByteArray) (r1 : ByteArray) (r2 : Bool) (w : World) (h : pseudo_Fill_p.f a0 a1 a2 a3 = some (r1, r2)) :
    Calls Try.prog 12 #[.int .i64 a0, .int .u32 a1, .int .u32 a2, .string a3] w fun e w' => e = .returned (.tuple #[.string r1, .bool r2]) ∧ Below w.heap.size w w' := by
  have HB := Aside0.mk (Below.refl w.heap.size w)
  have H : ((pseudo_Check.f a0 a1 a2 a3).bind fun bt126 => (if bt126.2 = true then ((pseudo_Place.f a0).bind fun bt128 => ((octet_Set.f a3 bt128.1 2 (wrap64 (bt126.1))).bind fun bt130 => (some (bt130.1, bt130.2)))) else (some ((⟨#[]⟩ : ByteArray), false)))) = some (r1, r2) := h
  clear h
  replace H := Option.bind_eq_some_iff.mp H
  obtain ⟨⟨t126, t127⟩, A50, H⟩ := H
  replace H : (if t127 = true then ((pseudo_Place.f a0).bind fun bt128 => ((octet_Set.f a3 bt128.1 2 (wrap64 (t126))).bind fun bt130 => (some (bt130.1, bt130.2)))) else (some ((⟨#[]⟩ : ByteArray), false))) = some (r1, r2) := H
  have A5 := Aside0.mk A50
  clear A50
  by_cases c6 : t127 = true
  · subst c6
    have H1 : ((pseudo_Place.f a0).bind fun bt128 => ((octet_Set.f a3 bt128.1 2 (wrap64 (t126))).bind fun bt130 => (some (bt130.1, bt130.2)))) = some (r1, r2) := by first | (rw [if_pos rfl] at H; exact H) | (rw [if_pos trivial] at H; exact H)
    clear H
    have H := H1
    clear H1
    replace H := Option.bind_eq_some_iff.mp H
    obtain ⟨⟨t128, t129⟩, A70, H⟩ := H
    replace H : ((octet_Set.f a3 t128 2 (wrap64 (t126))).bind fun bt130 => (some (bt130.1, bt130.2))) = some (r1, r2) := H
    have A7 := Aside0.mk A70
    clear A70
    replace H := Option.bind_eq_some_iff.mp H
    obtain ⟨⟨t130, t131⟩, A80, H⟩ := H
    replace H : (some (t130, t131)) = some (r1, r2) := H
    have A8 := Aside0.mk A80
    clear A80
    simp only [Option.some.injEq, Prod.mk.injEq] at H
    obtain ⟨rfl, rfl⟩ := H
    go_enter Try.func12, Try.ntmps12
    go_wp2_with (first | ((with_reducible refine gate_callee (f := 10) rfl ?_); refine goesL_ (some 19) rfl rfl Try.func10 (by kernel_rfl) rfl #[.int .i64 a0, .int .u32 a1, .int .u32 a2, .string a3] rfl (by (try simp only [List.map_toArray, List.map_cons, List.map_nil]); first | done | rfl | (simp only [List.length_drop, List.length_take]; rfl)) ?_; (with_reducible refine (pseudo_Check.calls a0 a1 a2 a3 t126 true _ A5.out).mono ?_); rintro e w9 ⟨rfl, hb⟩; (try clear A5); refine ⟨_, rfl, ?_⟩; have n0_ := Aside0.mk (below_step (by repeat (first | (with_reducible first | exact HB.out | apply below_alloc | apply pw_below_drewN | apply below_drew1) | exact HB.out)) hb); clear HB; have HB := n0_; clear n0_; (try clear hb); (try clear hb2); (try clear hk); (try clear hi)) | ((with_reducible refine gate_callee (f := 14) rfl ?_); refine goesL_ (some 26) rfl rfl Try.func14 (by kernel_rfl) rfl #[.int .i64 a0] rfl (by (try simp only [List.map_toArray, List.map_cons, List.map_nil]); first | done | rfl | (simp only [List.length_drop, List.length_take]; rfl)) ?_; (with_reducible refine (pseudo_Place.calls a0 t128 t129 _ A7.out).mono ?_); rintro e w10 ⟨rfl, hb⟩; (try clear A7); refine ⟨_, rfl, ?_⟩; have n0_ := Aside0.mk (below_step (by repeat (first | (with_reducible first | exact HB.out | apply below_alloc | apply pw_below_drewN | apply below_drew1) | exact HB.out)) hb); clear HB; have HB := n0_; clear n0_; (try clear hb); (try clear hb2); (try clear hk); (try clear hi)) | ((with_reducible refine gate_callee (f := 19) rfl ?_); refine goesL_ (some 33) rfl rfl Try.func19 (by kernel_rfl) rfl #[.string a3, .int .i64 t128, .int .i64 2, .int .i64 (wrap64 (t126))] rfl (by (try simp only [List.map_toArray, List.map_cons, List.map_nil]); first | done | rfl | (simp only [List.length_drop, List.length_take]; rfl)) ?_; (with_reducible refine (octet_Set.calls a3 t128 2 (wrap64 (t126)) t130 t131 _ A8.out).mono ?_); rintro e w11 ⟨rfl, hb⟩; (try clear A8); refine ⟨_, rfl, ?_⟩; have n0_ := Aside0.mk (below_step (by repeat (first | (with_reducible first | exact HB.out | apply below_alloc | apply pw_below_drewN | apply below_drew1) | exact HB.out)) hb); clear HB; have HB := n0_; clear n0_; (try clear hb); (try clear hb2); (try clear hk); (try clear hi)))
    go_ret2
    exact ⟨by first | rfl | (simp [errW_none, errW_some] <;> rfl) | (simp [*, errW_none, errW_some] <;> rfl), by repeat (first | (with_reducible first | exact HB.out | apply below_alloc | apply pw_below_drewN | apply below_drew1) | exact HB.out)⟩
  · replace c6 := Bool.eq_false_iff.mpr c6
    subst c6
    have H1 : (some ((⟨#[]⟩ : ByteArray), false)) = some (r1, r2) := by rw [if_neg (show ¬ (false = true) by decide)] at H; exact H
    clear H
    have H := H1
    clear H1
    simp only [Option.some.injEq, Prod.mk.injEq] at H
    obtain ⟨rfl, rfl⟩ := H
    go_enter Try.func12, Try.ntmps12
    go_wp2_with (first | ((with_reducible refine gate_callee (f := 10) rfl ?_); refine goesL_ (some 19) rfl rfl Try.func10 (by kernel_rfl) rfl #[.int .i64 a0, .int .u32 a1, .int .u32 a2, .string a3] rfl (by (try simp only [List.map_toArray, List.map_cons, List.map_nil]); first | done | rfl | (simp only [List.length_drop, List.length_take]; rfl)) ?_; (with_reducible refine (pseudo_Check.calls a0 a1 a2 a3 t126 false _ A5.out).mono ?_); rintro e w12 ⟨rfl, hb⟩; (try clear A5); refine ⟨_, rfl, ?_⟩; have n0_ := Aside0.mk (below_step (by repeat (first | (with_reducible first | exact HB.out | apply below_alloc | apply pw_below_drewN | apply below_drew1) | exact HB.out)) hb); clear HB; have HB := n0_; clear n0_; (try clear hb); (try clear hb2); (try clear hk); (try clear hi)))
    go_ret2
    exact ⟨by first | rfl | (simp [errW_none, errW_some] <;> rfl) | (simp [*, errW_none, errW_some] <;> rfl), by repeat (first | (with_reducible first | exact HB.out | apply below_alloc | apply pw_below_drewN | apply below_drew1) | exact HB.out)⟩

def pseudo_Fill.f (a0 a1 a2 : Int) (a3 : ByteArray) : Option (ByteArray × Bool) := if pdom a0 a1 a2 a3 = true then some (lb (Sp.pfill a0 a1 a2 (bl a3)).1, (Sp.pfill a0 a1 a2 (bl a3)).2) else none
theorem pseudo_Fill_eq {a0 a1 a2 : Int} {a3 : ByteArray} (h0 : -9223372036854775808 ≤ a0 ∧ a0 ≤ 9223372036854775807) (h1 : 0 ≤ a1 ∧ a1 ≤ 4294967295) (h2 : 0 ≤ a2 ∧ a2 ≤ 4294967295) (h3 : a3.size ≤ 281474976710656) : pseudo_Fill.f a0 a1 a2 a3 = some (lb (Sp.pfill a0 a1 a2 (bl a3)).1, (Sp.pfill a0 a1 a2 (bl a3)).2) := by
  unfold pseudo_Fill.f; exact if_pos (pdom_iff.2 ⟨h0, h1, h2, h3⟩)
theorem pseudo_Fill_ev (a0 a1 a2 : Int) (a3 : ByteArray) (r : ByteArray × Bool) (h : pseudo_Fill.f a0 a1 a2 a3 = some r) : pseudo_Fill_p.f a0 a1 a2 a3 = some r := by
  unfold pseudo_Fill.f at h
  split at h
  case isFalse => cases h
  case isTrue hs =>
    obtain ⟨h0, h1, h2, h3⟩ := pdom_iff.1 hs
    have hb := Sp.pcheck_bounds (p := a0) (s := bl a3) h1 h2
    rw [← h]
    unfold pseudo_Fill_p.f Sp.pfill
    rw [pseudo_Check_eq h0 h1 h2 h3, Option.bind_some]
    by_cases hc : (Sp.pcheck a0 a1 a2 (bl a3)).2 = true
    · rw [if_pos hc, if_pos hc, pseudo_Place_eq h0.1 h0.2, Option.bind_some, octet_Set_eq _ _ _ _ h3, Option.bind_some, wrap_id (by omega) (by omega)]
    · rw [if_neg hc, if_neg hc]; rfl
theorem pseudo_Fill.calls (a0 : Int) (a1 : Int) (a2 : Int) (a3 : ByteArray) (r1 : ByteArray) (r2 : Bool) (w : World) (h : pseudo_Fill.f a0 a1 a2 a3 = some (r1, r2)) :
    Calls Try.prog 12 #[.int .i64 a0, .int .u32 a1, .int .u32 a2, .string a3] w fun e w' => e = .returned (.tuple #[.string r1, .bool r2]) ∧ Below w.heap.size w w' := by
  have hk := pseudo_Fill_ev a0 a1 a2 a3 _ h
  exact pseudo_Fill_p.calls a0 a1 a2 a3 r1 r2 w hk

/-! ### pseudo_Verify_p: function 16 -/
def pseudo_Verify_p.f (a0 : Int) (a1 : Int) (a2 : Int) (a3 : ByteArray) : Option (Int) := (pseudo_Place.f a0).bind fun bt132 => (if bt132.2 = true then ((pseudo_Check.f a0 a1 a2 a3).bind fun bt134 => (if bt134.2 = true then ((octet_Get.f a3 bt132.1 2).bind fun bt136 => (if a0 = 17 then (if bt136.1 = 0 then (some 0) else ((pseudo_covered.f a0 a3).bind fun t138 => ((pseudo_sum.f a0 a1 a2 t138).bind fun t139 => (if t139 = 65535 then (some 0) else (some 7))))) else ((pseudo_covered.f a0 a3).bind fun t140 => ((pseudo_sum.f a0 a1 a2 t140).bind fun t141 => (if t141 = 65535 then (some 0) else (some 7)))))) else (some 2))) else (some 9))
set_option maxHeartbeats 8000000 in
set_option maxRecDepth 100000 in
theorem pseudo_Verify_p.calls (a0 : Int) (a1 : Int) (a2 : Int) (a3 : ByteArray) (r : Int) (w : World) (h : pseudo_Verify_p.f a0 a1 a2 a3 = some r) :
    Calls Try.prog 16 #[.int .i64 a0, .int .u32 a1, .int .u32 a2, .string a3] w fun e w' => e = .returned (.int .i64 r) ∧ Below w.heap.size w w' := by
  have HB := Aside0.mk (Below.refl w.heap.size w)
  have H : ((pseudo_Place.f a0).bind fun bt132 => (if bt132.2 = true then ((pseudo_Check.f a0 a1 a2 a3).bind fun bt134 => (if bt134.2 = true then ((octet_Get.f a3 bt132.1 2).bind fun bt136 => (if a0 = 17 then (if bt136.1 = 0 then (some 0) else ((pseudo_covered.f a0 a3).bind fun t138 => ((pseudo_sum.f a0 a1 a2 t138).bind fun t139 => (if t139 = 65535 then (some 0) else (some 7))))) else ((pseudo_covered.f a0 a3).bind fun t140 => ((pseudo_sum.f a0 a1 a2 t140).bind fun t141 => (if t141 = 65535 then (some 0) else (some 7)))))) else (some 2))) else (some 9))) = some r := h
  clear h
  replace H := Option.bind_eq_some_iff.mp H
  obtain ⟨⟨t132, t133⟩, A50, H⟩ := H
  replace H : (if t133 = true then ((pseudo_Check.f a0 a1 a2 a3).bind fun bt134 => (if bt134.2 = true then ((octet_Get.f a3 t132 2).bind fun bt136 => (if a0 = 17 then (if bt136.1 = 0 then (some 0) else ((pseudo_covered.f a0 a3).bind fun t138 => ((pseudo_sum.f a0 a1 a2 t138).bind fun t139 => (if t139 = 65535 then (some 0) else (some 7))))) else ((pseudo_covered.f a0 a3).bind fun t140 => ((pseudo_sum.f a0 a1 a2 t140).bind fun t141 => (if t141 = 65535 then (some 0) else (some 7)))))) else (some 2))) else (some 9)) = some r := H
  have A5 := Aside0.mk A50
  clear A50
  by_cases c6 : t133 = true
  · subst c6
    have H1 : ((pseudo_Check.f a0 a1 a2 a3).bind fun bt134 => (if bt134.2 = true then ((octet_Get.f a3 t132 2).bind fun bt136 => (if a0 = 17 then (if bt136.1 = 0 then (some 0) else ((pseudo_covered.f a0 a3).bind fun t138 => ((pseudo_sum.f a0 a1 a2 t138).bind fun t139 => (if t139 = 65535 then (some 0) else (some 7))))) else ((pseudo_covered.f a0 a3).bind fun t140 => ((pseudo_sum.f a0 a1 a2 t140).bind fun t141 => (if t141 = 65535 then (some 0) else (some 7)))))) else (some 2))) = some r := by first | (rw [if_pos rfl] at H; exact H) | (rw [if_pos trivial] at H; exact H)
    clear H
    have H := H1
    clear H1
    replace H := Option.bind_eq_some_iff.mp H
    obtain ⟨⟨t134, t135⟩, A70, H⟩ := H
    replace H : (if t135 = true then ((octet_Get.f a3 t132 2).bind fun bt136 => (if a0 = 17 then (if bt136.1 = 0 then (some 0) else ((pseudo_covered.f a0 a3).bind fun t138 => ((pseudo_sum.f a0 a1 a2 t138).bind fun t139 => (if t139 = 65535 then (some 0) else (some 7))))) else ((pseudo_covered.f a0 a3).bind fun t140 => ((pseudo_sum.f a0 a1 a2 t140).bind fun t141 => (if t141 = 65535 then (some 0) else (some 7)))))) else (some 2)) = some r := H
    have A7 := Aside0.mk A70
    clear A70
    by_cases c8 : t135 = true
    · subst c8
      have H1 : ((octet_Get.f a3 t132 2).bind fun bt136 => (if a0 = 17 then (if bt136.1 = 0 then (some 0) else ((pseudo_covered.f a0 a3).bind fun t138 => ((pseudo_sum.f a0 a1 a2 t138).bind fun t139 => (if t139 = 65535 then (some 0) else (some 7))))) else ((pseudo_covered.f a0 a3).bind fun t140 => ((pseudo_sum.f a0 a1 a2 t140).bind fun t141 => (if t141 = 65535 then (some 0) else (some 7)))))) = some r := by first | (rw [if_pos rfl] at H; exact H) | (rw [if_pos trivial] at H; exact H)
      clear H
      have H := H1
      clear H1
      replace H := Option.bind_eq_some_iff.mp H
      obtain ⟨⟨t136, t137⟩, A90, H⟩ := H
      replace H : (if a0 = 17 then (if t136 = 0 then (some 0) else ((pseudo_covered.f a0 a3).bind fun t138 => ((pseudo_sum.f a0 a1 a2 t138).bind fun t139 => (if t139 = 65535 then (some 0) else (some 7))))) else ((pseudo_covered.f a0 a3).bind fun t140 => ((pseudo_sum.f a0 a1 a2 t140).bind fun t141 => (if t141 = 65535 then (some 0) else (some 7))))) = some r := H
      have A9 := Aside0.mk A90
      clear A90
      by_cases c10 : a0 = 17
      · rw [if_pos c10] at H
        have c10b0 : (a0 == 17) = true := beq_iff_eq.mpr c10
        have c10b1 : (a0 != 17) = false := bne_eq_false_iff_eq.mpr c10
        clear c10
        by_cases c11 : t136 = 0
        · rw [if_pos c11] at H
          have c11b0 : (t136 == 0) = true := beq_iff_eq.mpr c11
          have c11b1 : (t136 != 0) = false := bne_eq_false_iff_eq.mpr c11
          clear c11
          obtain rfl := Option.some.inj H
          go_enter Try.func16, Try.ntmps16
          go_wp2_with (first | ((with_reducible refine gate_callee (f := 14) rfl ?_); refine goesL_ (some 17) rfl rfl Try.func14 (by kernel_rfl) rfl #[.int .i64 a0] rfl (by (try simp only [List.map_toArray, List.map_cons, List.map_nil]); first | done | rfl | (simp only [List.length_drop, List.length_take]; rfl)) ?_; (with_reducible refine (pseudo_Place.calls a0 t132 true _ A5.out).mono ?_); rintro e w12 ⟨rfl, hb⟩; (try clear A5); refine ⟨_, rfl, ?_⟩; have n0_ := Aside0.mk (below_step (by repeat (first | (with_reducible first | exact HB.out | apply below_alloc | apply pw_below_drewN | apply below_drew1) | exact HB.out)) hb); clear HB; have HB := n0_; clear n0_; (try clear hb); (try clear hb2); (try clear hk); (try clear hi)) | ((with_reducible refine gate_callee (f := 10) rfl ?_); refine goesL_ (some 27) rfl rfl Try.func10 (by kernel_rfl) rfl #[.int .i64 a0, .int .u32 a1, .int .u32 a2, .string a3] rfl (by (try simp only [List.map_toArray, List.map_cons, List.map_nil]); first | done | rfl | (simp only [List.length_drop, List.length_take]; rfl)) ?_; (with_reducible refine (pseudo_Check.calls a0 a1 a2 a3 t134 true _ A7.out).mono ?_); rintro e w13 ⟨rfl, hb⟩; (try clear A7); refine ⟨_, rfl, ?_⟩; have n0_ := Aside0.mk (below_step (by repeat (first | (with_reducible first | exact HB.out | apply below_alloc | apply pw_below_drewN | apply below_drew1) | exact HB.out)) hb); clear HB; have HB := n0_; clear n0_; (try clear hb); (try clear hb2); (try clear hk); (try clear hi)) | ((with_reducible refine gate_callee (f := 26) rfl ?_); refine goesL_ (some 35) rfl rfl Try.func26 (by kernel_rfl) rfl #[.string a3, .int .i64 t132, .int .i64 2] rfl (by (try simp only [List.map_toArray, List.map_cons, List.map_nil]); first | done | rfl | (simp only [List.length_drop, List.length_take]; rfl)) ?_; (with_reducible refine (octet_Get.calls a3 t132 2 t136 t137 _ A9.out).mono ?_); rintro e w14 ⟨rfl, hb⟩; (try clear A9); refine ⟨_, rfl, ?_⟩; have n0_ := Aside0.mk (below_step (by repeat (first | (with_reducible first | exact HB.out | apply below_alloc | apply pw_below_drewN | apply below_drew1) | exact HB.out)) hb); clear HB; have HB := n0_; clear n0_; (try clear hb); (try clear hb2); (try clear hk); (try clear hi)))
          go_ret
          exact ⟨by first | rfl | (simp [errW_none, errW_some] <;> rfl) | (simp [*, errW_none, errW_some] <;> rfl), by repeat (first | (with_reducible first | exact HB.out | apply below_alloc | apply pw_below_drewN | apply below_drew1) | exact HB.out)⟩
        · rw [if_neg c11] at H
          have c11b0 : (t136 == 0) = false := beq_eq_false_iff_ne.mpr c11
          have c11b1 : (t136 != 0) = true := bne_iff_ne.mpr c11
          replace H := Option.bind_eq_some_iff.mp H
          obtain ⟨t138, A150, H⟩ := H
          replace H : ((pseudo_sum.f a0 a1 a2 t138).bind fun t139 => (if t139 = 65535 then (some 0) else (some 7))) = some r := H
          have A15 := Aside0.mk A150
          clear A150
          replace H := Option.bind_eq_some_iff.mp H
          obtain ⟨t139, A160, H⟩ := H
          replace H : (if t139 = 65535 then (some 0) else (some 7)) = some r := H
          have A16 := Aside0.mk A160
          clear A160
          by_cases c17 : t139 = 65535
          · rw [if_pos c17] at H
            have c17b0 : (t139 == 65535) = true := beq_iff_eq.mpr c17
            have c17b1 : (t139 != 65535) = false := bne_eq_false_iff_eq.mpr c17
            clear c17
            obtain rfl := Option.some.inj H
            go_enter Try.func16, Try.ntmps16
            go_wp2_with (first | ((with_reducible refine gate_callee (f := 14) rfl ?_); refine goesL_ (some 17) rfl rfl Try.func14 (by kernel_rfl) rfl #[.int .i64 a0] rfl (by (try simp only [List.map_toArray, List.map_cons, List.map_nil]); first | done | rfl | (simp only [List.length_drop, List.length_take]; rfl)) ?_; (with_reducible refine (pseudo_Place.calls a0 t132 true _ A5.out).mono ?_); rintro e w18 ⟨rfl, hb⟩; (try clear A5); refine ⟨_, rfl, ?_⟩; have n0_ := Aside0.mk (below_step (by repeat (first | (with_reducible first | exact HB.out | apply below_alloc | apply pw_below_drewN | apply below_drew1) | exact HB.out)) hb); clear HB; have HB := n0_; clear n0_; (try clear hb); (try clear hb2); (try clear hk); (try clear hi)) | ((with_reducible refine gate_callee (f := 10) rfl ?_); refine goesL_ (some 27) rfl rfl Try.func10 (by kernel_rfl) rfl #[.int .i64 a0, .int .u32 a1, .int .u32 a2, .string a3] rfl (by (try simp only [List.map_toArray, List.map_cons, List.map_nil]); first | done | rfl | (simp only [List.length_drop, List.length_take]; rfl)) ?_; (with_reducible refine (pseudo_Check.calls a0 a1 a2 a3 t134 true _ A7.out).mono ?_); rintro e w19 ⟨rfl, hb⟩; (try clear A7); refine ⟨_, rfl, ?_⟩; have n0_ := Aside0.mk (below_step (by repeat (first | (with_reducible first | exact HB.out | apply below_alloc | apply pw_below_drewN | apply below_drew1) | exact HB.out)) hb); clear HB; have HB := n0_; clear n0_; (try clear hb); (try clear hb2); (try clear hk); (try clear hi)) | ((with_reducible refine gate_callee (f := 26) rfl ?_); refine goesL_ (some 35) rfl rfl Try.func26 (by kernel_rfl) rfl #[.string a3, .int .i64 t132, .int .i64 2] rfl (by (try simp only [List.map_toArray, List.map_cons, List.map_nil]); first | done | rfl | (simp only [List.length_drop, List.length_take]; rfl)) ?_; (with_reducible refine (octet_Get.calls a3 t132 2 t136 t137 _ A9.out).mono ?_); rintro e w20 ⟨rfl, hb⟩; (try clear A9); refine ⟨_, rfl, ?_⟩; have n0_ := Aside0.mk (below_step (by repeat (first | (with_reducible first | exact HB.out | apply below_alloc | apply pw_below_drewN | apply below_drew1) | exact HB.out)) hb); clear HB; have HB := n0_; clear n0_; (try clear hb); (try clear hb2); (try clear hk); (try clear hi)) | (go_at_call 20; (with_reducible refine (pseudo_covered.calls a0 a3 t138 _ A15.out).mono ?_); rintro e w21 ⟨rfl, hb⟩; (try clear A15); have n0_ := Aside0.mk (below_step (by repeat (first | (with_reducible first | exact HB.out | apply below_alloc | apply pw_below_drewN | apply below_drew1) | exact HB.out)) hb); clear HB; have HB := n0_; clear n0_; (try clear hb); (try clear hb2); (try clear hk); (try clear hi)) | (go_at_call 21; (with_reducible refine (pseudo_sum.calls a0 a1 a2 t138 t139 _ A16.out).mono ?_); rintro e w22 ⟨rfl, hb⟩; (try clear A16); have n0_ := Aside0.mk (below_step (by repeat (first | (with_reducible first | exact HB.out | apply below_alloc | apply pw_below_drewN | apply below_drew1) | exact HB.out)) hb); clear HB; have HB := n0_; clear n0_; (try clear hb); (try clear hb2); (try clear hk); (try clear hi)))
            go_ret
            exact ⟨by first | rfl | (simp [errW_none, errW_some] <;> rfl) | (simp [*, errW_none, errW_some] <;> rfl), by repeat (first | (with_reducible first | exact HB.out | apply below_alloc | apply pw_below_drewN | apply below_drew1) | exact HB.out)⟩
          · rw [if_neg c17] at H
            have c17b0 : (t139 == 65535) = false := beq_eq_false_iff_ne.mpr c17
            have c17b1 : (t139 != 65535) = true := bne_iff_ne.mpr c17
            obtain rfl := Option.some.inj H
            go_enter Try.func16, Try.ntmps16
            go_wp2_with (first | ((with_reducible refine gate_callee (f := 14) rfl ?_); refine goesL_ (some 17) rfl rfl Try.func14 (by kernel_rfl) rfl #[.int .i64 a0] rfl (by (try simp only [List.map_toArray, List.map_cons, List.map_nil]); first | done | rfl | (simp only [List.length_drop, List.length_take]; rfl)) ?_; (with_reducible refine (pseudo_Place.calls a0 t132 true _ A5.out).mono ?_); rintro e w23 ⟨rfl, hb⟩; (try clear A5); refine ⟨_, rfl, ?_⟩; have n0_ := Aside0.mk (below_step (by repeat (first | (with_reducible first | exact HB.out | apply below_alloc | apply pw_below_drewN | apply below_drew1) | exact HB.out)) hb); clear HB; have HB := n0_; clear n0_; (try clear hb); (try clear hb2); (try clear hk); (try clear hi)) | ((with_reducible refine gate_callee (f := 10) rfl ?_); refine goesL_ (some 27) rfl rfl Try.func10 (by kernel_rfl) rfl #[.int .i64 a0, .int .u32 a1, .int .u32 a2, .string a3] rfl (by (try simp only [List.map_toArray, List.map_cons, List.map_nil]); first | done | rfl | (simp only [List.length_drop, List.length_take]; rfl)) ?_; (with_reducible refine (pseudo_Check.calls a0 a1 a2 a3 t134 true _ A7.out).mono ?_); rintro e w24 ⟨rfl, hb⟩; (try clear A7); refine ⟨_, rfl, ?_⟩; have n0_ := Aside0.mk (below_step (by repeat (first | (with_reducible first | exact HB.out | apply below_alloc | apply pw_below_drewN | apply below_drew1) | exact HB.out)) hb); clear HB; have HB := n0_; clear n0_; (try clear hb); (try clear hb2); (try clear hk); (try clear hi)) | ((with_reducible refine gate_callee (f := 26) rfl ?_); refine goesL_ (some 35) rfl rfl Try.func26 (by kernel_rfl) rfl #[.string a3, .int .i64 t132, .int .i64 2] rfl (by (try simp only [List.map_toArray, List.map_cons, List.map_nil]); first | done | rfl | (simp only [List.length_drop, List.length_take]; rfl)) ?_; (with_reducible refine (octet_Get.calls a3 t132 2 t136 t137 _ A9.out).mono ?_); rintro e w25 ⟨rfl, hb⟩; (try clear A9); refine ⟨_, rfl, ?_⟩; have n0_ := Aside0.mk (below_step (by repeat (first | (with_reducible first | exact HB.out | apply below_alloc | apply pw_below_drewN | apply below_drew1) | exact HB.out)) hb); clear HB; have HB := n0_; clear n0_; (try clear hb); (try clear hb2); (try clear hk); (try clear hi)) | (go_at_call 20; (with_reducible refine (pseudo_covered.calls a0 a3 t138 _ A15.out).mono ?_); rintro e w26 ⟨rfl, hb⟩; (try clear A15); have n0_ := Aside0.mk (below_step (by repeat (first | (with_reducible first | exact HB.out | apply below_alloc | apply pw_below_drewN | apply below_drew1) | exact HB.out)) hb); clear HB; have HB := n0_; clear n0_; (try clear hb); (try clear hb2); (try clear hk); (try clear hi)) | (go_at_call 21; (with_reducible refine (pseudo_sum.calls a0 a1 a2 t138 t139 _ A16.out).mono ?_); rintro e w27 ⟨rfl, hb⟩; (try clear A16); have n0_ := Aside0.mk (below_step (by repeat (first | (with_reducible first | exact HB.out | apply below_alloc | apply pw_below_drewN | apply below_drew1) | exact HB.out)) hb); clear HB; have HB := n0_; clear n0_; (try clear hb); (try clear hb2); (try clear hk); (try clear hi)))
            go_ret
            exact ⟨by first | rfl | (simp [errW_none, errW_some] <;> rfl) | (simp [*, errW_none, errW_some] <;> rfl), by repeat (first | (with_reducible first | exact HB.out | apply below_alloc | apply pw_below_drewN | apply below_drew1) | exact HB.out)⟩
      · rw [if_neg c10] at H
        have c10b0 : (a0 == 17) = false := beq_eq_false_iff_ne.mpr c10
        have c10b1 : (a0 != 17) = true := bne_iff_ne.mpr c10
        replace H := Option.bind_eq_some_iff.mp H
        obtain ⟨t140, A280, H⟩ := H
        replace H : ((pseudo_sum.f a0 a1 a2 t140).bind fun t141 => (if t141 = 65535 then (some 0) else (some 7))) = some r := H
        have A28 := Aside0.mk A280
        clear A280
        replace H := Option.bind_eq_some_iff.mp H
        obtain ⟨t141, A290, H⟩ := H
        replace H : (if t141 = 65535 then (some 0) else (some 7)) = some r := H
        have A29 := Aside0.mk A290
        clear A290
        by_cases c30 : t141 = 65535
        · rw [if_pos c30] at H
          have c30b0 : (t141 == 65535) = true := beq_iff_eq.mpr c30
          have c30b1 : (t141 != 65535) = false := bne_eq_false_iff_eq.mpr c30
          clear c30
          obtain rfl := Option.some.inj H
          go_enter Try.func16, Try.ntmps16
          go_wp2_with (first | ((with_reducible refine gate_callee (f := 14) rfl ?_); refine goesL_ (some 17) rfl rfl Try.func14 (by kernel_rfl) rfl #[.int .i64 a0] rfl (by (try simp only [List.map_toArray, List.map_cons, List.map_nil]); first | done | rfl | (simp only [List.length_drop, List.length_take]; rfl)) ?_; (with_reducible refine (pseudo_Place.calls a0 t132 true _ A5.out).mono ?_); rintro e w31 ⟨rfl, hb⟩; (try clear A5); refine ⟨_, rfl, ?_⟩; have n0_ := Aside0.mk (below_step (by repeat (first | (with_reducible first | exact HB.out | apply below_alloc | apply pw_below_drewN | apply below_drew1) | exact HB.out)) hb); clear HB; have HB := n0_; clear n0_; (try clear hb); (try clear hb2); (try clear hk); (try clear hi)) | ((with_reducible refine gate_callee (f := 10) rfl ?_); refine goesL_ (some 27) rfl rfl Try.func10 (by kernel_rfl) rfl #[.int .i64 a0, .int .u32 a1, .int .u32 a2, .string a3] rfl (by (try simp only [List.map_toArray, List.map_cons, List.map_nil]); first | done | rfl | (simp only [List.length_drop, List.length_take]; rfl)) ?_; (with_reducible refine (pseudo_Check.calls a0 a1 a2 a3 t134 true _ A7.out).mono ?_); rintro e w32 ⟨rfl, hb⟩; (try clear A7); refine ⟨_, rfl, ?_⟩; have n0_ := Aside0.mk (below_step (by repeat (first | (with_reducible first | exact HB.out | apply below_alloc | apply pw_below_drewN | apply below_drew1) | exact HB.out)) hb); clear HB; have HB := n0_; clear n0_; (try clear hb); (try clear hb2); (try clear hk); (try clear hi)) | ((with_reducible refine gate_callee (f := 26) rfl ?_); refine goesL_ (some 35) rfl rfl Try.func26 (by kernel_rfl) rfl #[.string a3, .int .i64 t132, .int .i64 2] rfl (by (try simp only [List.map_toArray, List.map_cons, List.map_nil]); first | done | rfl | (simp only [List.length_drop, List.length_take]; rfl)) ?_; (with_reducible refine (octet_Get.calls a3 t132 2 t136 t137 _ A9.out).mono ?_); rintro e w33 ⟨rfl, hb⟩; (try clear A9); refine ⟨_, rfl, ?_⟩; have n0_ := Aside0.mk (below_step (by repeat (first | (with_reducible first | exact HB.out | apply below_alloc | apply pw_below_drewN | apply below_drew1) | exact HB.out)) hb); clear HB; have HB := n0_; clear n0_; (try clear hb); (try clear hb2); (try clear hk); (try clear hi)) | (go_at_call 20; (with_reducible refine (pseudo_covered.calls a0 a3 t140 _ A28.out).mono ?_); rintro e w34 ⟨rfl, hb⟩; (try clear A28); have n0_ := Aside0.mk (below_step (by repeat (first | (with_reducible first | exact HB.out | apply below_alloc | apply pw_below_drewN | apply below_drew1) | exact HB.out)) hb); clear HB; have HB := n0_; clear n0_; (try clear hb); (try clear hb2); (try clear hk); (try clear hi)) | (go_at_call 21; (with_reducible refine (pseudo_sum.calls a0 a1 a2 t140 t141 _ A29.out).mono ?_); rintro e w35 ⟨rfl, hb⟩; (try clear A29); have n0_ := Aside0.mk (below_step (by repeat (first | (with_reducible first | exact HB.out | apply below_alloc | apply pw_below_drewN | apply below_drew1) | exact HB.out)) hb); clear HB; have HB := n0_; clear n0_; (try clear hb); (try clear hb2); (try clear hk); (try clear hi)))
          go_ret
          exact ⟨by first | rfl | (simp [errW_none, errW_some] <;> rfl) | (simp [*, errW_none, errW_some] <;> rfl), by repeat (first | (with_reducible first | exact HB.out | apply below_alloc | apply pw_below_drewN | apply below_drew1) | exact HB.out)⟩
        · rw [if_neg c30] at H
          have c30b0 : (t141 == 65535) = false := beq_eq_false_iff_ne.mpr c30
          have c30b1 : (t141 != 65535) = true := bne_iff_ne.mpr c30
          obtain rfl := Option.some.inj H
          go_enter Try.func16, Try.ntmps16
          go_wp2_with (first | ((with_reducible refine gate_callee (f := 14) rfl ?_); refine goesL_ (some 17) rfl rfl Try.func14 (by kernel_rfl) rfl #[.int .i64 a0] rfl (by (try simp only [List.map_toArray, List.map_cons, List.map_nil]); first | done | rfl | (simp only [List.length_drop, List.length_take]; rfl)) ?_; (with_reducible refine (pseudo_Place.calls a0 t132 true _ A5.out).mono ?_); rintro e w36 ⟨rfl, hb⟩; (try clear A5); refine ⟨_, rfl, ?_⟩; have n0_ := Aside0.mk (below_step (by repeat (first | (with_reducible first | exact HB.out | apply below_alloc | apply pw_below_drewN | apply below_drew1) | exact HB.out)) hb); clear HB; have HB := n0_; clear n0_; (try clear hb); (try clear hb2); (try clear hk); (try clear hi)) | ((with_reducible refine gate_callee (f := 10) rfl ?_); refine goesL_ (some 27) rfl rfl Try.func10 (by kernel_rfl) rfl #[.int .i64 a0, .int .u32 a1, .int .u32 a2, .string a3] rfl (by (try simp only [List.map_toArray, List.map_cons, List.map_nil]); first | done | rfl | (simp only [List.length_drop, List.length_take]; rfl)) ?_; (with_reducible refine (pseudo_Check.calls a0 a1 a2 a3 t134 true _ A7.out).mono ?_); rintro e w37 ⟨rfl, hb⟩; (try clear A7); refine ⟨_, rfl, ?_⟩; have n0_ := Aside0.mk (below_step (by repeat (first | (with_reducible first | exact HB.out | apply below_alloc | apply pw_below_drewN | apply below_drew1) | exact HB.out)) hb); clear HB; have HB := n0_; clear n0_; (try clear hb); (try clear hb2); (try clear hk); (try clear hi)) | ((with_reducible refine gate_callee (f := 26) rfl ?_); refine goesL_ (some 35) rfl rfl Try.func26 (by kernel_rfl) rfl #[.string a3, .int .i64 t132, .int .i64 2] rfl (by (try simp only [List.map_toArray, List.map_cons, List.map_nil]); first | done | rfl | (simp only [List.length_drop, List.length_take]; rfl)) ?_; (with_reducible refine (octet_Get.calls a3 t132 2 t136 t137 _ A9.out).mono ?_); rintro e w38 ⟨rfl, hb⟩; (try clear A9); refine ⟨_, rfl, ?_⟩; have n0_ := Aside0.mk (below_step (by repeat (first | (with_reducible first | exact HB.out | apply below_alloc | apply pw_below_drewN | apply below_drew1) | exact HB.out)) hb); clear HB; have HB := n0_; clear n0_; (try clear hb); (try clear hb2); (try clear hk); (try clear hi)) | (go_at_call 20; (with_reducible refine (pseudo_covered.calls a0 a3 t140 _ A28.out).mono ?_); rintro e w39 ⟨rfl, hb⟩; (try clear A28); have n0_ := Aside0.mk (below_step (by repeat (first | (with_reducible first | exact HB.out | apply below_alloc | apply pw_below_drewN | apply below_drew1) | exact HB.out)) hb); clear HB; have HB := n0_; clear n0_; (try clear hb); (try clear hb2); (try clear hk); (try clear hi)) | (go_at_call 21; (with_reducible refine (pseudo_sum.calls a0 a1 a2 t140 t141 _ A29.out).mono ?_); rintro e w40 ⟨rfl, hb⟩; (try clear A29); have n0_ := Aside0.mk (below_step (by repeat (first | (with_reducible first | exact HB.out | apply below_alloc | apply pw_below_drewN | apply below_drew1) | exact HB.out)) hb); clear HB; have HB := n0_; clear n0_; (try clear hb); (try clear hb2); (try clear hk); (try clear hi)))
          go_ret
          exact ⟨by first | rfl | (simp [errW_none, errW_some] <;> rfl) | (simp [*, errW_none, errW_some] <;> rfl), by repeat (first | (with_reducible first | exact HB.out | apply below_alloc | apply pw_below_drewN | apply below_drew1) | exact HB.out)⟩
    · replace c8 := Bool.eq_false_iff.mpr c8
      subst c8
      have H1 : (some 2) = some r := by rw [if_neg (show ¬ (false = true) by decide)] at H; exact H
      clear H
      have H := H1
      clear H1
      obtain rfl := Option.some.inj H
      go_enter Try.func16, Try.ntmps16
      go_wp2_with (first | ((with_reducible refine gate_callee (f := 14) rfl ?_); refine goesL_ (some 17) rfl rfl Try.func14 (by kernel_rfl) rfl #[.int .i64 a0] rfl (by (try simp only [List.map_toArray, List.map_cons, List.map_nil]); first | done | rfl | (simp only [List.length_drop, List.length_take]; rfl)) ?_; (with_reducible refine (pseudo_Place.calls a0 t132 true _ A5.out).mono ?_); rintro e w41 ⟨rfl, hb⟩; (try clear A5); refine ⟨_, rfl, ?_⟩; have n0_ := Aside0.mk (below_step (by repeat (first | (with_reducible first | exact HB.out | apply below_alloc | apply pw_below_drewN | apply below_drew1) | exact HB.out)) hb); clear HB; have HB := n0_; clear n0_; (try clear hb); (try clear hb2); (try clear hk); (try clear hi)) | ((with_reducible refine gate_callee (f := 10) rfl ?_); refine goesL_ (some 27) rfl rfl Try.func10 (by kernel_rfl) rfl #[.int .i64 a0, .int .u32 a1, .int .u32 a2, .string a3] rfl (by (try simp only [List.map_toArray, List.map_cons, List.map_nil]); first | done | rfl | (simp only [List.length_drop, List.length_take]; rfl)) ?_; (with_reducible refine (pseudo_Check.calls a0 a1 a2 a3 t134 false _ A7.out).mono ?_); rintro e w42 ⟨rfl, hb⟩; (try clear A7); refine ⟨_, rfl, ?_⟩; have n0_ := Aside0.mk (below_step (by repeat (first | (with_reducible first | exact HB.out | apply below_alloc | apply pw_below_drewN | apply below_drew1) | exact HB.out)) hb); clear HB; have HB := n0_; clear n0_; (try clear hb); (try clear hb2); (try clear hk); (try clear hi)))
      go_ret
      exact ⟨by first | rfl | (simp [errW_none, errW_some] <;> rfl) | (simp [*, errW_none, errW_some] <;> rfl), by repeat (first | (with_reducible first | exact HB.out | apply below_alloc | apply pw_below_drewN | apply below_drew1) | exact HB.out)⟩
  · replace c6 := Bool.eq_false_iff.mpr c6
    subst c6
    have H1 : (some 9) = some r := by rw [if_neg (show ¬ (false = true) by decide)] at H; exact H
    clear H
    have H := H1
    clear H1
    obtain rfl := Option.some.inj H
    go_enter Try.func16, Try.ntmps16
    go_wp2_with (first | ((with_reducible refine gate_callee (f := 14) rfl ?_); refine goesL_ (some 17) rfl rfl Try.func14 (by kernel_rfl) rfl #[.int .i64 a0] rfl (by (try simp only [List.map_toArray, List.map_cons, List.map_nil]); first | done | rfl | (simp only [List.length_drop, List.length_take]; rfl)) ?_; (with_reducible refine (pseudo_Place.calls a0 t132 false _ A5.out).mono ?_); rintro e w43 ⟨rfl, hb⟩; (try clear A5); refine ⟨_, rfl, ?_⟩; have n0_ := Aside0.mk (below_step (by repeat (first | (with_reducible first | exact HB.out | apply below_alloc | apply pw_below_drewN | apply below_drew1) | exact HB.out)) hb); clear HB; have HB := n0_; clear n0_; (try clear hb); (try clear hb2); (try clear hk); (try clear hi)))
    go_ret
    exact ⟨by first | rfl | (simp [errW_none, errW_some] <;> rfl) | (simp [*, errW_none, errW_some] <;> rfl), by repeat (first | (with_reducible first | exact HB.out | apply below_alloc | apply pw_below_drewN | apply below_drew1) | exact HB.out)⟩

def pseudo_Verify.f (a0 a1 a2 : Int) (a3 : ByteArray) : Option Int := if pdom a0 a1 a2 a3 = true then some (Sp.pverify a0 a1 a2 (bl a3)) else none
theorem pseudo_Verify_eq {a0 a1 a2 : Int} {a3 : ByteArray} (h0 : -9223372036854775808 ≤ a0 ∧ a0 ≤ 9223372036854775807) (h1 : 0 ≤ a1 ∧ a1 ≤ 4294967295) (h2 : 0 ≤ a2 ∧ a2 ≤ 4294967295) (h3 : a3.size ≤ 281474976710656) : pseudo_Verify.f a0 a1 a2 a3 = some (Sp.pverify a0 a1 a2 (bl a3)) := by
  unfold pseudo_Verify.f; exact if_pos (pdom_iff.2 ⟨h0, h1, h2, h3⟩)
theorem pseudo_Verify_ev (a0 a1 a2 : Int) (a3 : ByteArray) (r : Int) (h : pseudo_Verify.f a0 a1 a2 a3 = some r) : pseudo_Verify_p.f a0 a1 a2 a3 = some r := by
  unfold pseudo_Verify.f at h
  split at h
  case isFalse => cases h
  case isTrue hs =>
    obtain ⟨h0, h1, h2, h3⟩ := pdom_iff.1 hs
    have hcl := Sp.cov_length a0 (bl a3)
    rw [bl_length] at hcl
    rw [← h]
    unfold pseudo_Verify_p.f Sp.pverify
    rw [pseudo_Place_eq h0.1 h0.2, Option.bind_some]
    by_cases hp : (Sp.place a0).2 = true
    · rw [if_pos hp, if_pos hp, pseudo_Check_eq h0 h1 h2 h3, Option.bind_some]
      by_cases hc : (Sp.pcheck a0 a1 a2 (bl a3)).2 = true
      · rw [if_pos hc, if_pos hc, octet_Get_eq _ _ _ h3, Option.bind_some, pseudo_covered_eq h3, Option.bind_some, pseudo_sum_eq hp h1 h2 (by rw [lb_size]; omega), Option.bind_some, bl_lb]
        by_cases e1 : a0 = 17
        · rw [if_pos e1]
          by_cases e2 : (Sp.get (bl a3) (Sp.place a0).1 2).1 = 0
          · rw [if_pos e2, if_pos (Or.inl ⟨e1, e2⟩)]
          · rw [if_neg e2]
            by_cases e3 : Sp.psum a0 a1 a2 (Sp.cov a0 (bl a3)) = 65535
            · rw [if_pos e3, if_pos (Or.inr e3)]
            · rw [if_neg e3, if_neg (fun h => h.elim (fun h => e2 h.2) e3)]
        · rw [if_neg e1]
          by_cases e3 : Sp.psum a0 a1 a2 (Sp.cov a0 (bl a3)) = 65535
          · rw [if_pos e3, if_pos (Or.inr e3)]
          · rw [if_neg e3, if_neg (fun h => h.elim (fun h => e1 h.1) e3)]
      · rw [if_neg hc, if_neg hc]
    · rw [if_neg hp, if_neg hp]

theorem pseudo_Verify.calls (a0 : Int) (a1 : Int) (a2 : Int) (a3 : ByteArray) (r : Int) (w : World) (h : pseudo_Verify.f a0 a1 a2 a3 = some r) :
    Calls Try.prog 16 #[.int .i64 a0, .int .u32 a1, .int .u32 a2, .string a3] w fun e w' => e = .returned (.int .i64 r) ∧ Below w.heap.size w w' := by
  have hk := pseudo_Verify_ev a0 a1 a2 a3 _ h
  exact pseudo_Verify_p.calls a0 a1 a2 a3 r w hk

end Go.Proofs.Ytpjimpdfjacnoaa.Pr
