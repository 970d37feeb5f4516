-- Written by a program of the session (wip/tools) out of the translation, over the kit's print; with pieces of the session's own.
import Derived.Test.YtfnjohklmpiboaaGreatPr0
import Derived.Test.YtfnjohklmpiboaaGreatPr10
import Derived.Test.YtfnjohklmpiboaaGreatPr12
import Derived.Test.YtfnjohklmpiboaaGreatPr14
namespace Go.Proofs.YtfnjohklmpiboaaGreat.Pr
open Go.RowKit Go.Proofs.YtfnjohklmpiboaaGreatW.PrintWords Go.Proofs.YtfnjohklmpiboaaGreatW.PrintLast Go.Proofs.YtfnjohklmpiboaaGreatW.PrintMore
attribute [local go_sem] max2_int min2_int max_two min_two max_three min_three max_four min_four   -- for this text's walks alone
set_option linter.unusedVariables false
set_option linter.unusedSimpArgs false
open Go.Proofs.YtfnjohklmpiboaaGreat.Sp
/-! ### pseudo_Place: function 20 -/
section
open Go.Maps
theorem zeroInt (w : World) : (zeroValue 3).run Tryz.prog w = .ok (.int .i64 0) w := by kernel_rfl
theorem place_data (p : Int) : (((DataW.map (H := Unit) []).put (.int .i64 6) (.lit (.int .i64 16))).put (.int .i64 17) (.lit (.int .i64 6))).atKey (.int .i64 p) (.lit (.int .i64 0)) = .lit (.int .i64 (Sp.place p).1) ∧
  Maps.has (((DataW.map (H := Unit) []).put (.int .i64 6) (.lit (.int .i64 16))).put (.int .i64 17) (.lit (.int .i64 6))) (.int .i64 p) = (Sp.place p).2 := by
 by_cases h1 : p = 6
 ·subst h1; exact ⟨rfl, rfl⟩
 by_cases h2 : p = 17
 ·subst h2; exact ⟨rfl, rfl⟩
 have n1 : (Lit.int .i64 p) ≠ .int .i64 6 := fun h => h1 (by injection h)
 have n2 : (Lit.int .i64 p) ≠ .int .i64 17 := fun h => h2 (by injection h)
 have e : Sp.place p = (0, false) := by unfold Sp.place; rw [if_neg h1, if_neg h2]
 rw [Maps.atKey_put_other n2, Maps.atKey_put_other n1, Maps.has_put_other n2, Maps.has_put_other n1, e]
 exact ⟨rfl, rfl⟩
set_option maxRecDepth 100000 in
theorem Place_any (p : Int) (hp : i64in p = true) (w : World) :
  Calls Tryz.prog 20 #[.int .i64 p] w fun e w' => e = .returned (.tuple #[.int .i64 (Sp.place p).1, .bool (Sp.place p).2]) ∧ Below w.heap.size w w' := by
 have hmm := @run_makeMap Tryz.prog
 have HP := Lib.hid (i64wf hp)
 clear hp
 go_enter Tryz.func20, Tryz.ntmps20
 go_wp2_with (first
  | (refine wpList_insert_own (H := Unit) _ rfl _ (.const (.int .i64 6)) (.const (.int .i64 16)) 87 rfl 3 3 (int_keyed Tryz.underlying3) Tryz.underlying87 (plainElem Tryz.prog 3) w.heap.size 0 (.map []) rfl (World.ownsMap_made _ _ _ _) (by decide) (.int .i64 6) (.int .i64 16) (.int .i64 6) rfl rfl (keyOf_int_mk Tryz.underlying3 (by decide)) (.lit (.int .i64 16)) [] (plainElem_int Tryz.underlying3 (by decide)) ?_; intro w1 hown1 hg1)
  | (refine wpList_insert_own (H := Unit) _ rfl _ (.const (.int .i64 17)) (.const (.int .i64 6)) 87 rfl 3 3 (int_keyed Tryz.underlying3) Tryz.underlying87 (plainElem Tryz.prog 3) w.heap.size (0 + 1) _ rfl hown1 (by decide) (.int .i64 17) (.int .i64 6) (.int .i64 17) rfl rfl (keyOf_int_mk Tryz.underlying3 (by decide)) (.lit (.int .i64 6)) [] (plainElem_int Tryz.underlying3 (by decide)) ?_; intro w2 hown2 hg2)
  | (at_lookup; refine wpList_lookup_own_ok_int (H := Unit) _ rfl _ _ 87 rfl 3 3 .i64 (int_keyed Tryz.underlying3) Tryz.underlying87 Tryz.underlying3 (zeroInt _) w.heap.size _ _ rfl hown2 _ _ rfl (keyOf_int_mk Tryz.underlying3 HP.out) ?_; intro c hat hwc))
 obtain ⟨d1, d2⟩ := place_data p
 go_ret2
 rw [d1] at hat
 injection hat with hat
 injection hat with _ hat
 rw [d2, ← hat]
 exact ⟨rfl, (((below_alloc (Below.refl _ w) _).grown hg1 (by simp) (fun k e => by cases e; exact Nat.le_refl _)).grown hg2 (by have := hg1.size; simp at this; omega) (fun k e => by cases e; exact Nat.le_refl _))⟩
end
def pseudo_Place.f (a0 : Int) : Option (Int × Bool) := if i64in a0 = true then some (Sp.place a0) else none
theorem pseudo_Place_eq {a0 : Int} (h0 : -9223372036854775808 ≤ a0) (h1 : a0 ≤ 9223372036854775807) : pseudo_Place.f a0 = some (Sp.place a0) := by unfold pseudo_Place.f; exact if_pos (decide_eq_true ⟨h0, h1⟩)
theorem pseudo_Place.calls (a0 : Int) (r1 : Int) (r2 : Bool) (w : World) (h : pseudo_Place.f a0 = some (r1, r2)) :
  Calls Tryz.prog 20 #[.int .i64 a0] w fun e w' => e = .returned (.tuple #[.int .i64 r1, .bool r2]) ∧ Below w.heap.size w w' := by
 unfold pseudo_Place.f at h
 split at h
 case isFalse => cases h
 case isTrue hs =>
  have h := Option.some.inj h
  have := Place_any a0 hs w
  rw [h] at this
  exact this
/-! ### pseudo_covered_p: function 72 -/
def pseudo_covered_p.f (a0 : Int) (a1 : ByteArray) : Option (ByteArray) := (udp_Size.f a1).bind fun bt241 => (if bt241.2 = true then (if a0 = 17 then (if 0 ≤ bt241.1 then (if bt241.1 ≤ (a1.size : Int) then (some (a1.extract 0 (bt241.1 : Int).toNat)) else (none)) else (none)) else (some a1)) else (some a1))
set_option maxHeartbeats 8000000 in
set_option maxRecDepth 100000 in
theorem pseudo_covered_p.calls (a0 : Int) (a1 : ByteArray) (r : ByteArray) (w : World) (h : pseudo_covered_p.f a0 a1 = some r) :
  Calls Tryz.prog 72 #[.int .i64 a0, .string a1] w fun e w' => e = .returned (.string r) ∧ Below w.heap.size w w' := by
 have HB := AA (Below.refl w.heap.size w)
 have H := h
 unfold pseudo_covered_p.f at H
 clear h
 replace H := OB H
 obtain ⟨⟨t241, t242⟩, A3, H⟩ := H
 (try set_option simprocs false in dsimp only at H)
 go_enter Tryz.func72, Tryz.ntmps72
 go_upto_region 2 with (first | ((with_reducible refine gkx 100 rfl ?_); refine gL 9 Tryz.func100 rfl (udp_Size.calls a1 t241 _ _ A3.out) ?_; rintro w8 hb; (try clear A3); replace HB := BS HB hb; (try clear hb)))
 by_cases c4 : t242 = true
 rotate_left
 ·replace c4 := Bool.eq_false_iff.mpr c4
  subst c4
  replace H := IFN H
  obtain rfl := Option.some.inj H
  go_wp2_with (fail)
  go_ret
  exact ⟨RT, BW HB⟩
 subst c4
 first | rw [if_pos rfl] at H | rw [if_pos trivial] at H
 by_cases c5 : a0 = 17
 rotate_left
 ·rw [if_neg c5] at H
  have c5b0 := BF c5
  have c5b1 := NT c5
  obtain rfl := Option.some.inj H
  go_wp2_with (fail)
  go_ret
  exact ⟨RT, BW HB⟩
 rw [if_pos c5] at H
 have c5b0 := BT c5
 have c5b1 := NF c5
 clear c5
 by_cases c6 : 0 ≤ t241
 ·rw [if_pos c6] at H
  have c6b0 := eq_true c6
  have c6b1 := decide_eq_true c6
  clear c6
  by_cases c7 : t241 ≤ (a1.size : Int)
  ·rw [if_pos c7] at H
   have c7b0 := eq_true c7
   have c7b1 := decide_eq_true c7
   clear c7
   obtain rfl := Option.some.inj H
   go_wp2_with (fail)
   go_ret
   exact ⟨RT, BW HB⟩
  rw [if_neg c7] at H
  exact absurd H (by simp)
 rw [if_neg c6] at H
 exact absurd H (by simp)

theorem cov_lb (a0 : Int) (s : ByteArray) : (if a0 = 17 ∧ (Sp.udpSize (bl s)).2 = true then s.extract 0 (Sp.udpSize (bl s)).1.toNat else s) = lb (Sp.cov a0 (bl s)) := by
 unfold Sp.cov
 split
 ·exact Sp.bl_inj (by rw [Sp.bl_extract, bl_lb, List.drop_zero])
 rw [Sp.lb_bl]
theorem udpSize_in (s : ByteArray) (h : (Sp.udpSize (bl s)).2 = true) : 0 ≤ (Sp.udpSize (bl s)).1 ∧ (Sp.udpSize (bl s)).1 ≤ s.size := by
 have hb := Sp.udpLen_bounds (bl s)
 unfold Sp.udpSize at h ⊢
 rw [bl_length] at h ⊢
 split at h
 case isTrue => cases h
 case isFalse h1 =>
  split at h
  case isTrue => cases h
  case isFalse h2 => rw [if_neg h1, if_neg h2]; exact ⟨hb.1, by show Sp.udpLen (bl s) ≤ _; omega⟩
def pseudo_covered.f (a0 : Int) (a1 : ByteArray) : Option ByteArray := if a1.size ≤ big then some (lb (Sp.cov a0 (bl a1))) else none
theorem pseudo_covered_eq {a0 : Int} {a1 : ByteArray} (h : a1.size ≤ 281474976710656) : pseudo_covered.f a0 a1 = some (lb (Sp.cov a0 (bl a1))) := by unfold pseudo_covered.f; exact if_pos h
theorem pseudo_covered_ev (a0 : Int) (a1 : ByteArray) (r : ByteArray) (h : pseudo_covered.f a0 a1 = some r) : pseudo_covered_p.f a0 a1 = some r := by
 unfold pseudo_covered.f at h
 split at h
 case isFalse => cases h
 case isTrue hs =>
  unfold big at hs
  rw [← h, ← cov_lb]
  unfold pseudo_covered_p.f
  rw [udp_Size_eq hs, Option.bind_some]
  by_cases h2 : (Sp.udpSize (bl a1)).2 = true
  ·have hb := udpSize_in a1 h2
   rw [if_pos h2]
   by_cases h1 : a0 = 17
   ·rw [if_pos h1, if_pos hb.1, if_pos hb.2, if_pos ⟨h1, h2⟩]
   rw [if_neg h1, if_neg (fun h => h1 h.1)]
  rw [if_neg h2, if_neg (fun h => h2 h.2)]
theorem pseudo_covered.calls (a0 : Int) (a1 : ByteArray) (r : ByteArray) (w : World) (h : pseudo_covered.f a0 a1 = some r) :
  Calls Tryz.prog 72 #[.int .i64 a0, .string a1] w fun e w' => e = .returned (.string r) ∧ Below w.heap.size w w' := by
 have hk := pseudo_covered_ev a0 a1 _ h
 exact pseudo_covered_p.calls a0 a1 r w hk

/-! ### pseudo_sum_p: function 73 -/
def pseudo_sum_p.f (a0 : Int) (a1 : Int) (a2 : Int) (a3 : ByteArray) : Option (Int) := (cksum_Fold.f (IntKind.u64.wrap ((IntKind.u64.wrap ((IntKind.u64.wrap ((IntKind.u64.wrap ((IntKind.u64.wrap ((IntKind.u64.wrap (a1 / 65536)) + (IntKind.u64.wrap (Go.bits .and .u32 a1 65535)))) + (IntKind.u64.wrap (a2 / 65536)))) + (IntKind.u64.wrap (Go.bits .and .u32 a2 65535)))) + (IntKind.u64.wrap (a0)))) + (IntKind.u64.wrap (Go.bits .and .i64 (a3.size : Int) 65535))))).bind fun t245 => ((cksum_Sum.f a3).bind fun t246 => ((cksum_Join.f (([t245, t246] : List Int))).bind fun t250 => (some t250)))
set_option maxHeartbeats 8000000 in
set_option maxRecDepth 100000 in
theorem pseudo_sum_p.calls (a0 : Int) (a1 : Int) (a2 : Int) (a3 : ByteArray) (r : Int) (w : World) (h : pseudo_sum_p.f a0 a1 a2 a3 = some r) :
  Calls Tryz.prog 73 #[.int .i64 a0, .int .u32 a1, .int .u32 a2, .string a3] w fun e w' => e = .returned (.int .u16 r) ∧ Below w.heap.size w w' := by
 have HB := AA (Below.refl w.heap.size w)
 have H := h
 unfold pseudo_sum_p.f at H
 clear h
 replace H := OB H
 obtain ⟨t245, A5, H⟩ := H
 (try set_option simprocs false in dsimp only at H)
 replace H := OB H
 obtain ⟨t246, A6, H⟩ := H
 (try set_option simprocs false in dsimp only at H)
 obtain ⟨y247, hy247⟩ : ∃ y_ : List Int, y_ = (([t245, t246] : List Int)) := ⟨_, rfl⟩
 replace H : ((cksum_Join.f y247).bind fun t250 => (some t250)) = some r := by first | (rw [hy247]; with_reducible exact H) | (have H2_ := (Option.bind_some _ _).symm.trans H; rw [hy247]; with_reducible exact H2_) | (have H2_ := (Option.bind_some _ _).symm.trans H; with_reducible exact H2_) | with_reducible exact H | (rw [hy247]; exact H) | exact H
 have Ny247 := AA hy247
 clear hy247
 replace H := OB H
 obtain ⟨t250, A7, H⟩ := H
 (try set_option simprocs false in dsimp only at H)
 obtain rfl := Option.some.inj H
 go_enter Tryz.func73, Tryz.ntmps73
 go_wp2_with (first | ((with_reducible refine gkx 63 rfl ?_); refine gL 34 Tryz.func63 rfl (cksum_Fold.calls (IntKind.u64.wrap ((IntKind.u64.wrap ((IntKind.u64.wrap ((IntKind.u64.wrap ((IntKind.u64.wrap ((IntKind.u64.wrap (a1 / 65536)) + (IntKind.u64.wrap (Go.bits .and .u32 a1 65535)))) + (IntKind.u64.wrap (a2 / 65536)))) + (IntKind.u64.wrap (Go.bits .and .u32 a2 65535)))) + (IntKind.u64.wrap (a0)))) + (IntKind.u64.wrap (Go.bits .and .i64 (a3.size : Int) 65535)))) t245 _ A5.out) ?_; rintro w' ⟨nd, rfl⟩) | ((with_reducible refine gkx 64 rfl ?_); refine gL 36 Tryz.func64 rfl (cksum_Sum.calls a3 t246 _ A6.out) ?_; rintro w8 hb; (try clear A6); replace HB := BS HB hb; (try clear hb)) | ((with_reducible refine gate_dst (N := 37) rfl ?_); refine Kd.R_lit (Kd.int .u16) _ 23 ?hg (N := 37) ?hd (xs := ([t245, t246] : List Int)) (inner := [.int .u16 t245, .int .u16 t246]) (ok := fun _ => True) (okp := fun _ => True) ?hr ?hp (fun _ hk => hk) trivial (Below.refl _ _) (Nat.le_refl _) (by simp) ?_; (case hd => rfl); (case hg => rfl); (case hr => first | (go_simp; done) | (go_simp; rfl)); (case hp => exact (Reps.one (show Kd.M (Kd.int .u16) _ _ _ t245 [.int .u16 t245] from rfl) (Reps.one (show Kd.M (Kd.int .u16) _ _ _ t246 [.int .u16 t246] from rfl) (Reps.none _ _)))); intro v248 w9 ho10 hb hg_ hnew_; clear hg_ hnew_; (first | rw [← Ny247.out] at ho10 | (simp only [Int.reduceToNat] at ho10; rw [← Ny247.out] at ho10)); have HO249 := AA (Kd.R_lower ho10 (below_size (BW HB))); replace HB := BS HB hb; clear hb ho10; obtain ⟨Ao11, co11, eo11⟩ := Kd.R_slice HO249.out; subst eo11) | ((with_reducible refine gkx 42 rfl ?_); refine goesL_ (some 38) rfl rfl Tryz.func42 (by kernel_rfl) rfl #[.slice Ao11 y247.length co11] rfl AG ?_; (with_reducible refine (cksum_Join.calls _ _ y247 t250 _ ?side1 ?side2 A7.out).mono ?_); (case side1 => repeat (first | exact (Kd.R_reads' HO249.out).2.2 | (with_reducible refine Kd.C_alloc ?_ _) | (with_reducible refine Kd.C_drewN ?_ _) | (with_reducible refine Kd.C_drew ?_))); (case side2 => exact (Kd.R_reads' HO249.out).2.1); rintro e w' ⟨rfl, ⟨nd, rfl⟩⟩; refine ⟨_, rfl, ?_⟩))
 go_ret
 exact ⟨RT, BW HB⟩

theorem ps_and32 {n : Int} (h0 : 0 ≤ n) (h1 : n ≤ 4294967295) : Go.bits .and .u32 n 65535 = n % 65536 :=
 bits_mask .u32 32 (by decide) (fun n a b => IntWalk.u32_in n ⟨a, by omega⟩) 16 (by decide) n h0 (by omega)
theorem ps_and64 {n : Int} (h0 : 0 ≤ n) (h1 : n ≤ 9223372036854775807) : Go.bits .and .i64 n 65535 = n % 65536 :=
 bits_mask .i64 63 (by decide) (fun n a b => by rw [IntKind.wrap_i64]; omega) 16 (by decide) n h0 (by omega)
def p32 (n : Int) : Bool := decide (0 ≤ n ∧ n ≤ 4294967295)
theorem p32_iff {n : Int} : p32 n = true ↔ 0 ≤ n ∧ n ≤ 4294967295 := decide_eq_true_iff
def pseudo_sum.f (a0 a1 a2 : Int) (a3 : ByteArray) : Option Int := if (Sp.place a0).2 = true ∧ p32 a1 = true ∧ p32 a2 = true ∧ a3.size ≤ big then some (Sp.psum a0 a1 a2 (bl a3)) else none
theorem pseudo_sum_eq {a0 a1 a2 : Int} {a3 : ByteArray} (hp : (Sp.place a0).2 = true) (h1 : 0 ≤ a1 ∧ a1 ≤ 4294967295) (h2 : 0 ≤ a2 ∧ a2 ≤ 4294967295) (h : a3.size ≤ 281474976710656) : pseudo_sum.f a0 a1 a2 a3 = some (Sp.psum a0 a1 a2 (bl a3)) := by
 unfold pseudo_sum.f; exact if_pos ⟨hp, p32_iff.2 h1, p32_iff.2 h2, h⟩
theorem pseudo_sum_ev (a0 a1 a2 : Int) (a3 : ByteArray) (r : Int) (h : pseudo_sum.f a0 a1 a2 a3 = some r) : pseudo_sum_p.f a0 a1 a2 a3 = some r := by
 unfold pseudo_sum.f at h
 split at h
 case isFalse => cases h
 case isTrue hs =>
  obtain ⟨hp, h1, h2, h3⟩ := hs
  have h1 := p32_iff.1 h1
  have h2 := p32_iff.1 h2
  unfold big at h3
  have hb := Sp.hsum_bounds (n := (a3.size : Int)) hp h1 h2
  have hp' : 0 ≤ a0 ∧ a0 ≤ 17 := by
   rcases Sp.place_cases a0 with ⟨e, _⟩ | ⟨e, _⟩ | ⟨_, _, e⟩
   ·omega
   ·omega
   ·rw [e] at hp; cases hp
  have hw := Sp.wsum_bounds (Sp.wl (bl a3))
  have hq := Sp.sum_bounds (bl a3)
  have hf := Sp.fold16_bounds hb.1
  rw [← h]
  unfold pseudo_sum_p.f
  rw [ps_and32 h1.1 h1.2, ps_and32 h2.1 h2.2, ps_and64 (by omega) (by omega), wrap_u64 (n := a1 / 65536) (by omega) (by omega), wrap_u64 (n := a1 % 65536) (by omega) (by omega), wrap_u64 (n := a2 / 65536) (by omega) (by omega), wrap_u64 (n := a2 % 65536) (by omega) (by omega),
   wrap_u64 (n := a0) (by omega) (by omega), wrap_u64 (n := (a3.size : Int) % 65536) (by omega) (by omega), wrap_u64 (n := a1 / 65536 + a1 % 65536) (by omega) (by omega), wrap_u64 (n := a1 / 65536 + a1 % 65536 + a2 / 65536) (by omega) (by omega),
   wrap_u64 (n := a1 / 65536 + a1 % 65536 + a2 / 65536 + a2 % 65536) (by omega) (by omega), wrap_u64 (n := a1 / 65536 + a1 % 65536 + a2 / 65536 + a2 % 65536 + a0) (by omega) (by omega), wrap_u64 (by omega) (by omega)]
  rw [show a1 / 65536 + a1 % 65536 + a2 / 65536 + a2 % 65536 + a0 + (a3.size : Int) % 65536 = Sp.hsum a0 a1 a2 (a3.size : Int) from rfl, cksum_Fold_eq hb.1 (by omega), Option.bind_some, cksum_Sum_eq h3, Option.bind_some,
   cksum_Join_eq (by simp) (by intro x hx; simp at hx; omega), Option.bind_some]
  have e : Sp.join [Sp.fold16 (Sp.hsum a0 a1 a2 (a3.size : Int)), Sp.sum (bl a3)] = Sp.psum a0 a1 a2 (bl a3) := by
   unfold Sp.join Sp.psum Sp.sum
   rw [bl_length, ← Sp.fold16_add hb.1 hw.1]
   simp
  rw [e]
theorem pseudo_sum.calls (a0 : Int) (a1 : Int) (a2 : Int) (a3 : ByteArray) (r : Int) (w : World) (h : pseudo_sum.f a0 a1 a2 a3 = some r) :
  Calls Tryz.prog 73 #[.int .i64 a0, .int .u32 a1, .int .u32 a2, .string a3] w fun e w' => e = .returned (.int .u16 r) ∧ Below w.heap.size w w' := by
 have hk := pseudo_sum_ev a0 a1 a2 a3 _ h
 exact pseudo_sum_p.calls a0 a1 a2 a3 r w hk

/-! ### pseudo_Check_p: function 49 -/
def pseudo_Check_p.f (a0 : Int) (a1 : Int) (a2 : Int) (a3 : ByteArray) : Option (Int × Bool) := (pseudo_Place.f a0).bind fun bt251 => (if bt251.2 = true then ((pseudo_covered.f a0 a3).bind fun t253 => ((octet_Set.f t253 bt251.1 2 0).bind fun bt254 => (if bt254.2 = true then ((pseudo_sum.f a0 a1 a2 bt254.1).bind fun t256 => (if a0 = 17 then (if (Go.bits .xor .u16 65535 t256) = 0 then (some (65535, true)) else (some (Go.bits .xor .u16 65535 t256, true))) else (some (Go.bits .xor .u16 65535 t256, true)))) else (some (0, false))))) else (some (0, false)))
set_option maxHeartbeats 8000000 in
set_option maxRecDepth 100000 in
theorem pseudo_Check_p.calls (a0 : Int) (a1 : Int) (a2 : Int) (a3 : ByteArray) (r1 : Int) (r2 : Bool) (w : World) (h : pseudo_Check_p.f a0 a1 a2 a3 = some (r1, r2)) :
  Calls Tryz.prog 49 #[.int .i64 a0, .int .u32 a1, .int .u32 a2, .string a3] w fun e w' => e = .returned (.tuple #[.int .u16 r1, .bool r2]) ∧ Below w.heap.size w w' := by
 have HB := AA (Below.refl w.heap.size w)
 have H := h
 unfold pseudo_Check_p.f at H
 clear h
 replace H := OB H
 obtain ⟨⟨t251, t252⟩, A5, H⟩ := H
 (try set_option simprocs false in dsimp only at H)
 go_enter Tryz.func49, Tryz.ntmps49
 go_upto_if 20 with (first | ((with_reducible refine gkx 20 rfl ?_); refine gL 16 Tryz.func20 rfl (pseudo_Place.calls a0 t251 _ _ A5.out) ?_; rintro w13 hb; (try clear A5); replace HB := BS HB hb; (try clear hb)))
 by_cases c6 : t252 = true
 rotate_left
 ·replace c6 := Bool.eq_false_iff.mpr c6
  subst c6
  replace H := IFN H
  simp only [Option.some.injEq, Prod.mk.injEq] at H
  obtain ⟨rfl, rfl⟩ := H
  go_wp2_with (fail)
  go_ret2
  exact ⟨RT, BW HB⟩
 subst c6
 first | rw [if_pos rfl] at H | rw [if_pos trivial] at H
 replace H := OB H
 obtain ⟨t253, A7, H⟩ := H
 (try set_option simprocs false in dsimp only at H)
 replace H := OB H
 obtain ⟨⟨t254, t255⟩, A8, H⟩ := H
 (try set_option simprocs false in dsimp only at H)
 by_cases c9 : t255 = true
 rotate_left
 ·replace c9 := Bool.eq_false_iff.mpr c9
  subst c9
  replace H := IFN H
  simp only [Option.some.injEq, Prod.mk.injEq] at H
  obtain ⟨rfl, rfl⟩ := H
  go_wp2_with (first | ((with_reducible refine gkx 72 rfl ?_); refine gL 24 Tryz.func72 rfl (pseudo_covered.calls a0 a3 t253 _ A7.out) ?_; rintro w26 hb; (try clear A7); replace HB := BS HB hb; (try clear hb)) | ((with_reducible refine gkx 40 rfl ?_); refine gL 26 Tryz.func40 rfl (octet_Set.calls t253 t251 2 0 t254 false _ A8.out) ?_; rintro w27 hb; (try clear A8); replace HB := BS HB hb; (try clear hb)))
  go_ret2
  exact ⟨RT, BW HB⟩
 subst c9
 first | rw [if_pos rfl] at H | rw [if_pos trivial] at H
 replace H := OB H
 obtain ⟨t256, A10, H⟩ := H
 (try set_option simprocs false in dsimp only at H)
 by_cases c11 : a0 = 17
 ·rw [if_pos c11] at H
  have c11b0 := BT c11
  have c11b1 := NF c11
  clear c11
  by_cases c12 : (Go.bits .xor .u16 65535 t256) = 0
  ·rw [if_pos c12] at H
   have c12b0 := BT c12
   have c12b1 := NF c12
   clear c12
   simp only [Option.some.injEq, Prod.mk.injEq] at H
   obtain ⟨rfl, rfl⟩ := H
   go_wp2_with (first | ((with_reducible refine gkx 72 rfl ?_); refine gL 24 Tryz.func72 rfl (pseudo_covered.calls a0 a3 t253 _ A7.out) ?_; rintro w14 hb; (try clear A7); replace HB := BS HB hb; (try clear hb)) | ((with_reducible refine gkx 40 rfl ?_); refine gL 26 Tryz.func40 rfl (octet_Set.calls t253 t251 2 0 t254 true _ A8.out) ?_; rintro w15 hb; (try clear A8); replace HB := BS HB hb; (try clear hb)) | ((with_reducible refine gkx 73 rfl ?_); refine gL 35 Tryz.func73 rfl (pseudo_sum.calls a0 a1 a2 t254 t256 _ A10.out) ?_; rintro w16 hb; (try clear A10); replace HB := BS HB hb; (try clear hb)))
   go_ret2
   exact ⟨RT, BW HB⟩
  rw [if_neg c12] at H
  have c12b0 := BF c12
  have c12b1 := NT c12
  simp only [Option.some.injEq, Prod.mk.injEq] at H
  obtain ⟨rfl, rfl⟩ := H
  go_wp2_with (first | ((with_reducible refine gkx 72 rfl ?_); refine gL 24 Tryz.func72 rfl (pseudo_covered.calls a0 a3 t253 _ A7.out) ?_; rintro w18 hb; (try clear A7); replace HB := BS HB hb; (try clear hb)) | ((with_reducible refine gkx 40 rfl ?_); refine gL 26 Tryz.func40 rfl (octet_Set.calls t253 t251 2 0 t254 true _ A8.out) ?_; rintro w19 hb; (try clear A8); replace HB := BS HB hb; (try clear hb)) | ((with_reducible refine gkx 73 rfl ?_); refine gL 35 Tryz.func73 rfl (pseudo_sum.calls a0 a1 a2 t254 t256 _ A10.out) ?_; rintro w20 hb; (try clear A10); replace HB := BS HB hb; (try clear hb)))
  go_ret2
  exact ⟨RT, BW HB⟩
 rw [if_neg c11] at H
 have c11b0 := BF c11
 have c11b1 := NT c11
 simp only [Option.some.injEq, Prod.mk.injEq] at H
 obtain ⟨rfl, rfl⟩ := H
 go_wp2_with (first | ((with_reducible refine gkx 72 rfl ?_); refine gL 24 Tryz.func72 rfl (pseudo_covered.calls a0 a3 t253 _ A7.out) ?_; rintro w22 hb; (try clear A7); replace HB := BS HB hb; (try clear hb)) | ((with_reducible refine gkx 40 rfl ?_); refine gL 26 Tryz.func40 rfl (octet_Set.calls t253 t251 2 0 t254 true _ A8.out) ?_; rintro w23 hb; (try clear A8); replace HB := BS HB hb; (try clear hb)) | ((with_reducible refine gkx 73 rfl ?_); refine gL 35 Tryz.func73 rfl (pseudo_sum.calls a0 a1 a2 t254 t256 _ A10.out) ?_; rintro w24 hb; (try clear A10); replace HB := BS HB hb; (try clear hb)))
 go_ret2
 exact ⟨RT, BW HB⟩

theorem ps_not16 {x : Int} (h0 : 0 ≤ x) (h1 : x ≤ 65535) : Go.bits .xor .u16 65535 x = 65535 - x := by
 obtain ⟨a, rfl⟩ := Int.eq_ofNat_of_zero_le h0
 have ha : a < 65536 := by omega
 have e : BitVec.ofInt 16 65535 = BitVec.allOnes 16 := by decide
 show IntKind.u16.wrap (((BitVec.ofInt 16 65535 ^^^ BitVec.ofInt 16 (a : Int)).toNat : Nat) : Int) = 65535 - (a : Int)
 rw [e, BitVec.ofInt_natCast, BitVec.allOnes_xor, BitVec.toNat_not, BitVec.toNat_ofNat, Nat.mod_eq_of_lt (show a < 2 ^ 16 from ha), wrap_u16 (by omega) (by omega)]
 omega
def pdom (p a b : Int) (s : ByteArray) : Bool := i64in p && p32 a && p32 b && decide (s.size ≤ big)
theorem pdom_iff {p a b : Int} {s : ByteArray} : pdom p a b s = true ↔ (-9223372036854775808 ≤ p ∧ p ≤ 9223372036854775807) ∧ (0 ≤ a ∧ a ≤ 4294967295) ∧ (0 ≤ b ∧ b ≤ 4294967295) ∧ s.size ≤ 281474976710656 := by
 unfold pdom i64in p32 big; simp [and_assoc]
def pseudo_Check.f (a0 a1 a2 : Int) (a3 : ByteArray) : Option (Int × Bool) := if pdom a0 a1 a2 a3 = true then some (Sp.pcheck a0 a1 a2 (bl a3)) else none
theorem pseudo_Check_eq {a0 a1 a2 : Int} {a3 : ByteArray} (h0 : -9223372036854775808 ≤ a0 ∧ a0 ≤ 9223372036854775807) (h1 : 0 ≤ a1 ∧ a1 ≤ 4294967295) (h2 : 0 ≤ a2 ∧ a2 ≤ 4294967295) (h3 : a3.size ≤ 281474976710656) : pseudo_Check.f a0 a1 a2 a3 = some (Sp.pcheck a0 a1 a2 (bl a3)) := by
 unfold pseudo_Check.f; exact if_pos (pdom_iff.2 ⟨h0, h1, h2, h3⟩)
theorem pseudo_Check_ev (a0 a1 a2 : Int) (a3 : ByteArray) (r : Int × Bool) (h : pseudo_Check.f a0 a1 a2 a3 = some r) : pseudo_Check_p.f a0 a1 a2 a3 = some r := by
 unfold pseudo_Check.f at h
 split at h
 case isFalse => cases h
 case isTrue hs =>
  obtain ⟨h0, h1, h2, h3⟩ := pdom_iff.1 hs
  have hcl := Sp.cov_length a0 (bl a3)
  rw [bl_length] at hcl
  rw [← h]
  unfold pseudo_Check_p.f Sp.pcheck
  rw [pseudo_Place_eq h0.1 h0.2, Option.bind_some]
  by_cases hp : (Sp.place a0).2 = true
  rotate_left
  ·rw [if_neg hp, if_neg (fun h => hp h.1)]
  rw [if_pos hp, pseudo_covered_eq h3, Option.bind_some, octet_Set_eq _ _ _ _ (by rw [lb_size]; omega), Option.bind_some, bl_lb, show Sp.set (Sp.cov a0 (bl a3)) (Sp.place a0).1 2 0 = Sp.zeroed a0 (bl a3) from rfl]
  by_cases hz : (Sp.zeroed a0 (bl a3)).2 = true
  ·have hzl : (Sp.zeroed a0 (bl a3)).1.length ≤ a3.size := Nat.le_trans (Sp.set_le _ _ _ _) hcl
   have hb := Sp.psum_bounds (s := (Sp.zeroed a0 (bl a3)).1) hp h1 h2
   rw [if_pos hz, if_pos ⟨hp, hz⟩]
   show (pseudo_sum.f a0 a1 a2 (lb (Sp.zeroed a0 (bl a3)).1)).bind _ = _
   rw [pseudo_sum_eq hp h1 h2 (by rw [lb_size]; omega), Option.bind_some, bl_lb, ps_not16 hb.1 hb.2]
   unfold Sp.pnum
   by_cases e1 : a0 = 17
   ·rw [if_pos e1]
    by_cases e2 : 65535 - Sp.psum a0 a1 a2 (Sp.zeroed a0 (bl a3)).1 = 0
    ·rw [if_pos e2, if_pos ⟨e1, e2⟩]
    rw [if_neg e2, if_neg (fun h => e2 h.2)]
   rw [if_neg e1, if_neg (fun h => e1 h.1)]
  have hz' : ¬ ((lb (Sp.zeroed a0 (bl a3)).1, (Sp.zeroed a0 (bl a3)).2) : ByteArray × Bool).2 = true := hz
  rw [if_neg hz', if_neg (fun h => hz h.2)]
theorem pseudo_Check.calls (a0 : Int) (a1 : Int) (a2 : Int) (a3 : ByteArray) (r1 : Int) (r2 : Bool) (w : World) (h : pseudo_Check.f a0 a1 a2 a3 = some (r1, r2)) :
  Calls Tryz.prog 49 #[.int .i64 a0, .int .u32 a1, .int .u32 a2, .string a3] w fun e w' => e = .returned (.tuple #[.int .u16 r1, .bool r2]) ∧ Below w.heap.size w w' := by
 have hk := pseudo_Check_ev a0 a1 a2 a3 _ h
 exact pseudo_Check_p.calls a0 a1 a2 a3 r1 r2 w hk

/-! ### pseudo_Fill_p: function 32 -/
def pseudo_Fill_p.f (a0 : Int) (a1 : Int) (a2 : Int) (a3 : ByteArray) : Option (ByteArray × Bool) := (pseudo_Check.f a0 a1 a2 a3).bind fun bt257 => (if bt257.2 = true then ((pseudo_Place.f a0).bind fun bt259 => ((octet_Set.f a3 bt259.1 2 (wrap64 (bt257.1))).bind fun bt261 => (some (bt261.1, bt261.2)))) else (some ((⟨#[]⟩ : ByteArray), false)))
set_option maxHeartbeats 8000000 in
set_option maxRecDepth 100000 in
theorem pseudo_Fill_p.calls (a0 : Int) (a1 : Int) (a2 : Int) (a3 : ByteArray) (r1 : ByteArray) (r2 : Bool) (w : World) (h : pseudo_Fill_p.f a0 a1 a2 a3 = some (r1, r2)) :
  Calls Tryz.prog 32 #[.int .i64 a0, .int .u32 a1, .int .u32 a2, .string a3] w fun e w' => e = .returned (.tuple #[.string r1, .bool r2]) ∧ Below w.heap.size w w' := by
 have HB := AA (Below.refl w.heap.size w)
 have H := h
 unfold pseudo_Fill_p.f at H
 clear h
 replace H := OB H
 obtain ⟨⟨t257, t258⟩, A5, H⟩ := H
 (try set_option simprocs false in dsimp only at H)
 go_enter Tryz.func32, Tryz.ntmps32
 go_upto_if 23 with (first | ((with_reducible refine gkx 49 rfl ?_); refine gL 19 Tryz.func49 rfl (pseudo_Check.calls a0 a1 a2 a3 t257 _ _ A5.out) ?_; rintro w9 hb; (try clear A5); replace HB := BS HB hb; (try clear hb)))
 by_cases c6 : t258 = true
 ·subst c6
  first | rw [if_pos rfl] at H | rw [if_pos trivial] at H
  replace H := OB H
  obtain ⟨⟨t259, t260⟩, A7, H⟩ := H
  (try set_option simprocs false in dsimp only at H)
  replace H := OB H
  obtain ⟨⟨t261, t262⟩, A8, H⟩ := H
  (try set_option simprocs false in dsimp only at H)
  simp only [Option.some.injEq, Prod.mk.injEq] at H
  obtain ⟨rfl, rfl⟩ := H
  go_wp2_with (first | ((with_reducible refine gkx 20 rfl ?_); refine gL 26 Tryz.func20 rfl (pseudo_Place.calls a0 t259 t260 _ A7.out) ?_; rintro w10 hb; (try clear A7); replace HB := BS HB hb; (try clear hb)) | ((with_reducible refine gkx 40 rfl ?_); refine gL 33 Tryz.func40 rfl (octet_Set.calls a3 t259 2 (wrap64 (t257)) t261 t262 _ A8.out) ?_; rintro w11 hb; (try clear A8); replace HB := BS HB hb; (try clear hb)))
  go_ret2
  exact ⟨RT, BW HB⟩
 replace c6 := Bool.eq_false_iff.mpr c6
 subst c6
 replace H := IFN H
 simp only [Option.some.injEq, Prod.mk.injEq] at H
 obtain ⟨rfl, rfl⟩ := H
 go_wp2_with (fail)
 go_ret2
 exact ⟨RT, BW HB⟩

def pseudo_Fill.f (a0 a1 a2 : Int) (a3 : ByteArray) : Option (ByteArray × Bool) := if pdom a0 a1 a2 a3 = true then some (lb (Sp.pfill a0 a1 a2 (bl a3)).1, (Sp.pfill a0 a1 a2 (bl a3)).2) else none
theorem pseudo_Fill_eq {a0 a1 a2 : Int} {a3 : ByteArray} (h0 : -9223372036854775808 ≤ a0 ∧ a0 ≤ 9223372036854775807) (h1 : 0 ≤ a1 ∧ a1 ≤ 4294967295) (h2 : 0 ≤ a2 ∧ a2 ≤ 4294967295) (h3 : a3.size ≤ 281474976710656) : pseudo_Fill.f a0 a1 a2 a3 = some (lb (Sp.pfill a0 a1 a2 (bl a3)).1, (Sp.pfill a0 a1 a2 (bl a3)).2) := by
 unfold pseudo_Fill.f; exact if_pos (pdom_iff.2 ⟨h0, h1, h2, h3⟩)
theorem pseudo_Fill_ev (a0 a1 a2 : Int) (a3 : ByteArray) (r : ByteArray × Bool) (h : pseudo_Fill.f a0 a1 a2 a3 = some r) : pseudo_Fill_p.f a0 a1 a2 a3 = some r := by
 unfold pseudo_Fill.f at h
 split at h
 case isFalse => cases h
 case isTrue hs =>
  obtain ⟨h0, h1, h2, h3⟩ := pdom_iff.1 hs
  have hb := Sp.pcheck_bounds (p := a0) (s := bl a3) h1 h2
  rw [← h]
  unfold pseudo_Fill_p.f Sp.pfill
  rw [pseudo_Check_eq h0 h1 h2 h3, Option.bind_some]
  by_cases hc : (Sp.pcheck a0 a1 a2 (bl a3)).2 = true
  ·rw [if_pos hc, if_pos hc, pseudo_Place_eq h0.1 h0.2, Option.bind_some, octet_Set_eq _ _ _ _ h3, Option.bind_some, wrap_id (by omega) (by omega)]
  rw [if_neg hc, if_neg hc]; rfl
theorem pseudo_Fill.calls (a0 : Int) (a1 : Int) (a2 : Int) (a3 : ByteArray) (r1 : ByteArray) (r2 : Bool) (w : World) (h : pseudo_Fill.f a0 a1 a2 a3 = some (r1, r2)) :
  Calls Tryz.prog 32 #[.int .i64 a0, .int .u32 a1, .int .u32 a2, .string a3] w fun e w' => e = .returned (.tuple #[.string r1, .bool r2]) ∧ Below w.heap.size w w' := by
 have hk := pseudo_Fill_ev a0 a1 a2 a3 _ h
 exact pseudo_Fill_p.calls a0 a1 a2 a3 r1 r2 w hk

/-! ### pseudo_Verify_p: function 60 -/
def pseudo_Verify_p.f (a0 : Int) (a1 : Int) (a2 : Int) (a3 : ByteArray) : Option (Int) := (pseudo_Place.f a0).bind fun bt268 => (if bt268.2 = true then ((pseudo_Check.f a0 a1 a2 a3).bind fun bt270 => (if bt270.2 = true then ((octet_Get.f a3 bt268.1 2).bind fun bt272 => (if a0 = 17 then (if bt272.1 = 0 then (some 0) else ((pseudo_covered.f a0 a3).bind fun t274 => ((pseudo_sum.f a0 a1 a2 t274).bind fun t275 => (if t275 = 65535 then (some 0) else (some 7))))) else ((pseudo_covered.f a0 a3).bind fun t276 => ((pseudo_sum.f a0 a1 a2 t276).bind fun t277 => (if t277 = 65535 then (some 0) else (some 7)))))) else (some 2))) else (some 9))
set_option maxHeartbeats 8000000 in
set_option maxRecDepth 100000 in
theorem pseudo_Verify_p.calls (a0 : Int) (a1 : Int) (a2 : Int) (a3 : ByteArray) (r : Int) (w : World) (h : pseudo_Verify_p.f a0 a1 a2 a3 = some r) :
  Calls Tryz.prog 60 #[.int .i64 a0, .int .u32 a1, .int .u32 a2, .string a3] w fun e w' => e = .returned (.int .i64 r) ∧ Below w.heap.size w w' := by
 have HB := AA (Below.refl w.heap.size w)
 have H := h
 unfold pseudo_Verify_p.f at H
 clear h
 replace H := OB H
 obtain ⟨⟨t268, t269⟩, A5, H⟩ := H
 (try set_option simprocs false in dsimp only at H)
 go_enter Tryz.func60, Tryz.ntmps60
 go_upto_if 21 with (first | ((with_reducible refine gkx 20 rfl ?_); refine gL 17 Tryz.func20 rfl (pseudo_Place.calls a0 t268 _ _ A5.out) ?_; rintro w12 hb; (try clear A5); replace HB := BS HB hb; (try clear hb)))
 by_cases c6 : t269 = true
 rotate_left
 ·replace c6 := Bool.eq_false_iff.mpr c6
  subst c6
  replace H := IFN H
  obtain rfl := Option.some.inj H
  go_wp2_with (fail)
  go_ret
  exact ⟨RT, BW HB⟩
 subst c6
 first | rw [if_pos rfl] at H | rw [if_pos trivial] at H
 replace H := OB H
 obtain ⟨⟨t270, t271⟩, A7, H⟩ := H
 (try set_option simprocs false in dsimp only at H)
 by_cases c8 : t271 = true
 rotate_left
 ·replace c8 := Bool.eq_false_iff.mpr c8
  subst c8
  replace H := IFN H
  obtain rfl := Option.some.inj H
  go_wp2_with (first | ((with_reducible refine gkx 49 rfl ?_); refine gL 27 Tryz.func49 rfl (pseudo_Check.calls a0 a1 a2 a3 t270 false _ A7.out) ?_; rintro w42 hb; (try clear A7); replace HB := BS HB hb; (try clear hb)))
  go_ret
  exact ⟨RT, BW HB⟩
 subst c8
 first | rw [if_pos rfl] at H | rw [if_pos trivial] at H
 replace H := OB H
 obtain ⟨⟨t272, t273⟩, A9, H⟩ := H
 (try set_option simprocs false in dsimp only at H)
 by_cases c10 : a0 = 17
 ·rw [if_pos c10] at H
  have c10b0 := BT c10
  have c10b1 := NF c10
  clear c10
  by_cases c11 : t272 = 0
  ·rw [if_pos c11] at H
   have c11b0 := BT c11
   have c11b1 := NF c11
   clear c11
   obtain rfl := Option.some.inj H
   go_wp2_with (first | ((with_reducible refine gkx 49 rfl ?_); refine gL 27 Tryz.func49 rfl (pseudo_Check.calls a0 a1 a2 a3 t270 true _ A7.out) ?_; rintro w13 hb; (try clear A7); replace HB := BS HB hb; (try clear hb)) | ((with_reducible refine gkx 41 rfl ?_); refine gL 35 Tryz.func41 rfl (octet_Get.calls a3 t268 2 t272 t273 _ A9.out) ?_; rintro w14 hb; (try clear A9); replace HB := BS HB hb; (try clear hb)))
   go_ret
   exact ⟨RT, BW HB⟩
  rw [if_neg c11] at H
  have c11b0 := BF c11
  have c11b1 := NT c11
  replace H := OB H
  obtain ⟨t274, A15, H⟩ := H
  (try set_option simprocs false in dsimp only at H)
  replace H := OB H
  obtain ⟨t275, A16, H⟩ := H
  (try set_option simprocs false in dsimp only at H)
  by_cases c17 : t275 = 65535
  ·rw [if_pos c17] at H
   have c17b0 := BT c17
   have c17b1 := NF c17
   clear c17
   obtain rfl := Option.some.inj H
   go_wp2_with (first | ((with_reducible refine gkx 49 rfl ?_); refine gL 27 Tryz.func49 rfl (pseudo_Check.calls a0 a1 a2 a3 t270 true _ A7.out) ?_; rintro w19 hb; (try clear A7); replace HB := BS HB hb; (try clear hb)) | ((with_reducible refine gkx 41 rfl ?_); refine gL 35 Tryz.func41 rfl (octet_Get.calls a3 t268 2 t272 t273 _ A9.out) ?_; rintro w20 hb; (try clear A9); replace HB := BS HB hb; (try clear hb)) | (go_at_call 72; (with_reducible refine (pseudo_covered.calls a0 a3 t274 _ A15.out).mono ?_); rintro e w21 ⟨rfl, hb⟩; (try clear A15); replace HB := BS HB hb; (try clear hb)) | (go_at_call 73; (with_reducible refine (pseudo_sum.calls a0 a1 a2 t274 t275 _ A16.out).mono ?_); rintro e w22 ⟨rfl, hb⟩; (try clear A16); replace HB := BS HB hb; (try clear hb)))
   go_ret
   exact ⟨RT, BW HB⟩
  rw [if_neg c17] at H
  have c17b0 := BF c17
  have c17b1 := NT c17
  obtain rfl := Option.some.inj H
  go_wp2_with (first | ((with_reducible refine gkx 49 rfl ?_); refine gL 27 Tryz.func49 rfl (pseudo_Check.calls a0 a1 a2 a3 t270 true _ A7.out) ?_; rintro w24 hb; (try clear A7); replace HB := BS HB hb; (try clear hb)) | ((with_reducible refine gkx 41 rfl ?_); refine gL 35 Tryz.func41 rfl (octet_Get.calls a3 t268 2 t272 t273 _ A9.out) ?_; rintro w25 hb; (try clear A9); replace HB := BS HB hb; (try clear hb)) | (go_at_call 72; (with_reducible refine (pseudo_covered.calls a0 a3 t274 _ A15.out).mono ?_); rintro e w26 ⟨rfl, hb⟩; (try clear A15); replace HB := BS HB hb; (try clear hb)) | (go_at_call 73; (with_reducible refine (pseudo_sum.calls a0 a1 a2 t274 t275 _ A16.out).mono ?_); rintro e w27 ⟨rfl, hb⟩; (try clear A16); replace HB := BS HB hb; (try clear hb)))
  go_ret
  exact ⟨RT, BW HB⟩
 rw [if_neg c10] at H
 have c10b0 := BF c10
 have c10b1 := NT c10
 replace H := OB H
 obtain ⟨t276, A28, H⟩ := H
 (try set_option simprocs false in dsimp only at H)
 replace H := OB H
 obtain ⟨t277, A29, H⟩ := H
 (try set_option simprocs false in dsimp only at H)
 by_cases c30 : t277 = 65535
 ·rw [if_pos c30] at H
  have c30b0 := BT c30
  have c30b1 := NF c30
  clear c30
  obtain rfl := Option.some.inj H
  go_wp2_with (first | ((with_reducible refine gkx 49 rfl ?_); refine gL 27 Tryz.func49 rfl (pseudo_Check.calls a0 a1 a2 a3 t270 true _ A7.out) ?_; rintro w32 hb; (try clear A7); replace HB := BS HB hb; (try clear hb)) | ((with_reducible refine gkx 41 rfl ?_); refine gL 35 Tryz.func41 rfl (octet_Get.calls a3 t268 2 t272 t273 _ A9.out) ?_; rintro w33 hb; (try clear A9); replace HB := BS HB hb; (try clear hb)) | (go_at_call 72; (with_reducible refine (pseudo_covered.calls a0 a3 t276 _ A28.out).mono ?_); rintro e w34 ⟨rfl, hb⟩; (try clear A28); replace HB := BS HB hb; (try clear hb)) | (go_at_call 73; (with_reducible refine (pseudo_sum.calls a0 a1 a2 t276 t277 _ A29.out).mono ?_); rintro e w35 ⟨rfl, hb⟩; (try clear A29); replace HB := BS HB hb; (try clear hb)))
  go_ret
  exact ⟨RT, BW HB⟩
 rw [if_neg c30] at H
 have c30b0 := BF c30
 have c30b1 := NT c30
 obtain rfl := Option.some.inj H
 go_wp2_with (first | ((with_reducible refine gkx 49 rfl ?_); refine gL 27 Tryz.func49 rfl (pseudo_Check.calls a0 a1 a2 a3 t270 true _ A7.out) ?_; rintro w37 hb; (try clear A7); replace HB := BS HB hb; (try clear hb)) | ((with_reducible refine gkx 41 rfl ?_); refine gL 35 Tryz.func41 rfl (octet_Get.calls a3 t268 2 t272 t273 _ A9.out) ?_; rintro w38 hb; (try clear A9); replace HB := BS HB hb; (try clear hb)) | (go_at_call 72; (with_reducible refine (pseudo_covered.calls a0 a3 t276 _ A28.out).mono ?_); rintro e w39 ⟨rfl, hb⟩; (try clear A28); replace HB := BS HB hb; (try clear hb)) | (go_at_call 73; (with_reducible refine (pseudo_sum.calls a0 a1 a2 t276 t277 _ A29.out).mono ?_); rintro e w40 ⟨rfl, hb⟩; (try clear A29); replace HB := BS HB hb; (try clear hb)))
 go_ret
 exact ⟨RT, BW HB⟩

def pseudo_Verify.f (a0 a1 a2 : Int) (a3 : ByteArray) : Option Int := if pdom a0 a1 a2 a3 = true then some (Sp.pverify a0 a1 a2 (bl a3)) else none
theorem pseudo_Verify_eq {a0 a1 a2 : Int} {a3 : ByteArray} (h0 : -9223372036854775808 ≤ a0 ∧ a0 ≤ 9223372036854775807) (h1 : 0 ≤ a1 ∧ a1 ≤ 4294967295) (h2 : 0 ≤ a2 ∧ a2 ≤ 4294967295) (h3 : a3.size ≤ 281474976710656) : pseudo_Verify.f a0 a1 a2 a3 = some (Sp.pverify a0 a1 a2 (bl a3)) := by
 unfold pseudo_Verify.f; exact if_pos (pdom_iff.2 ⟨h0, h1, h2, h3⟩)
theorem pseudo_Verify_ev (a0 a1 a2 : Int) (a3 : ByteArray) (r : Int) (h : pseudo_Verify.f a0 a1 a2 a3 = some r) : pseudo_Verify_p.f a0 a1 a2 a3 = some r := by
 unfold pseudo_Verify.f at h
 split at h
 case isFalse => cases h
 case isTrue hs =>
  obtain ⟨h0, h1, h2, h3⟩ := pdom_iff.1 hs
  have hcl := Sp.cov_length a0 (bl a3)
  rw [bl_length] at hcl
  rw [← h]
  unfold pseudo_Verify_p.f Sp.pverify
  rw [pseudo_Place_eq h0.1 h0.2, Option.bind_some]
  by_cases hp : (Sp.place a0).2 = true
  rotate_left
  ·rw [if_neg hp, if_neg hp]
  rw [if_pos hp, if_pos hp, pseudo_Check_eq h0 h1 h2 h3, Option.bind_some]
  by_cases hc : (Sp.pcheck a0 a1 a2 (bl a3)).2 = true
  ·rw [if_pos hc, if_pos hc, octet_Get_eq _ _ _ h3, Option.bind_some, pseudo_covered_eq h3, Option.bind_some, pseudo_sum_eq hp h1 h2 (by rw [lb_size]; omega), Option.bind_some, bl_lb]
   by_cases e1 : a0 = 17
   ·rw [if_pos e1]
    by_cases e2 : (Sp.get (bl a3) (Sp.place a0).1 2).1 = 0
    ·rw [if_pos e2, if_pos (Or.inl ⟨e1, e2⟩)]
    rw [if_neg e2]
    by_cases e3 : Sp.psum a0 a1 a2 (Sp.cov a0 (bl a3)) = 65535
    ·rw [if_pos e3, if_pos (Or.inr e3)]
    rw [if_neg e3, if_neg (fun h => h.elim (fun h => e2 h.2) e3)]
   rw [if_neg e1]
   by_cases e3 : Sp.psum a0 a1 a2 (Sp.cov a0 (bl a3)) = 65535
   ·rw [if_pos e3, if_pos (Or.inr e3)]
   rw [if_neg e3, if_neg (fun h => h.elim (fun h => e1 h.1) e3)]
  rw [if_neg hc, if_neg hc]

theorem pseudo_Verify.calls (a0 : Int) (a1 : Int) (a2 : Int) (a3 : ByteArray) (r : Int) (w : World) (h : pseudo_Verify.f a0 a1 a2 a3 = some r) :
  Calls Tryz.prog 60 #[.int .i64 a0, .int .u32 a1, .int .u32 a2, .string a3] w fun e w' => e = .returned (.int .i64 r) ∧ Below w.heap.size w w' := by
 have hk := pseudo_Verify_ev a0 a1 a2 a3 _ h
 exact pseudo_Verify_p.calls a0 a1 a2 a3 r w hk

end Go.Proofs.YtfnjohklmpiboaaGreat.Pr
