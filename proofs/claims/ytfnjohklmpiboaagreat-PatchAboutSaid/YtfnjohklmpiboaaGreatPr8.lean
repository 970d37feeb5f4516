-- Written by a program of the session (wip/tools) out of the translation, over the kit's print; with pieces of the session's own.
import Derived.Test.YtfnjohklmpiboaaGreatPr0
import Derived.Test.YtfnjohklmpiboaaGreatPr3
import Derived.Test.YtfnjohklmpiboaaGreatPr5
import Derived.Test.YtfnjohklmpiboaaGreatPr6
import Derived.Test.YtfnjohklmpiboaaGreatPr7
import Derived.Test.YtfnjohklmpiboaaGreatPr9
import Derived.Test.YtfnjohklmpiboaaGreatPr11
namespace Go.Proofs.YtfnjohklmpiboaaGreat.Pr
open Go.RowKit Go.Proofs.YtfnjohklmpiboaaGreatW.PrintWords Go.Proofs.YtfnjohklmpiboaaGreatW.PrintLast Go.Proofs.YtfnjohklmpiboaaGreatW.PrintMore
attribute [local go_sem] max2_int min2_int max_two min_two max_three min_three max_four min_four   -- for this text's walks alone
set_option linter.unusedVariables false
set_option linter.unusedSimpArgs false
open Go.Proofs.YtfnjohklmpiboaaGreat.Sp
/-! ### weighbridgelaw10_segment_p: function 12 -/
def weighbridgelaw10_segment_p.f (a0_0 : Int) (a0_1 : Int) (a0_2 : Int) (a0_3 : Int) (a0_4 : Int) (a0_5 : Int) (a0_6 : Int) (a0_7 : ByteArray) (a0_8 : Bool) (a0_9 : Int) (a0_10 : Int) (a1 : Int) : Option (ByteArray) := if 0 ≤ (mn (a0_7.size : Int) 40) then (if (mn (a0_7.size : Int) 40) ≤ (a0_7.size : Int) then (if a1 = 6 then ((weighbridgeref05_Build.f (wrap64 (a0_3)) (wrap64 (a0_4)) 7 0 (wrap64 (Int.tmod a0_5 64)) 9 0 (⟨#[]⟩ : ByteArray) (a0_7.extract 0 ((mn (a0_7.size : Int) 40) : Int).toNat)).bind fun bt192 => ((weighbridgeref08_Fill.f a1 a0_1 a0_2 bt192.1).bind fun bt194 => (some bt194.1))) else ((weighbridgeref06_Build.f (wrap64 (a0_3)) (wrap64 (a0_4)) (a0_7.extract 0 ((mn (a0_7.size : Int) 40) : Int).toNat)).bind fun bt196 => (if a0_8 = true then (some bt196.1) else ((weighbridgeref08_Fill.f a1 a0_1 a0_2 bt196.1).bind fun bt198 => (some bt198.1))))) else (none)) else (none)
set_option maxHeartbeats 8000000 in
set_option maxRecDepth 100000 in
theorem weighbridgelaw10_segment_p.calls (a0_0 : Int) (a0_1 : Int) (a0_2 : Int) (a0_3 : Int) (a0_4 : Int) (a0_5 : Int) (a0_6 : Int) (a0_7 : ByteArray) (a0_8 : Bool) (a0_9 : Int) (a0_10 : Int) (a1 : Int) (r : ByteArray) (w : World) (h : weighbridgelaw10_segment_p.f a0_0 a0_1 a0_2 a0_3 a0_4 a0_5 a0_6 a0_7 a0_8 a0_9 a0_10 a1 = some r) :
  Calls Tryz.prog 12 #[.agg #[.int .u8 a0_0, .int .u32 a0_1, .int .u32 a0_2, .int .u16 a0_3, .int .u16 a0_4, .int .u8 a0_5, .int .u8 a0_6, .string a0_7, .bool a0_8, .int .u32 a0_9, .int .u32 a0_10], .int .i64 a1] w fun e w' => e = .returned (.string r) ∧ Below w.heap.size w w' := by
 have hu25 := Tryz.underlying25
 have hu80 := Tryz.underlying80
 have HB := AA (Below.refl w.heap.size w)
 have H := h
 unfold weighbridgelaw10_segment_p.f at H
 clear h
 obtain ⟨ji3, hji3⟩ : ∃ j_ : Int, (mn (a0_7.size : Int) 40) = j_ := ⟨_, rfl⟩
 replace H : (if 0 ≤ (ji3) then (if (ji3) ≤ (a0_7.size : Int) then (if a1 = 6 then ((weighbridgeref05_Build.f (wrap64 (a0_3)) (wrap64 (a0_4)) 7 0 (wrap64 (Int.tmod a0_5 64)) 9 0 (⟨#[]⟩ : ByteArray) (a0_7.extract 0 ((ji3) : Int).toNat)).bind fun bt192 => ((weighbridgeref08_Fill.f a1 a0_1 a0_2 bt192.1).bind fun bt194 => (some bt194.1))) else ((weighbridgeref06_Build.f (wrap64 (a0_3)) (wrap64 (a0_4)) (a0_7.extract 0 ((ji3) : Int).toNat)).bind fun bt196 => (if a0_8 = true then (some bt196.1) else ((weighbridgeref08_Fill.f a1 a0_1 a0_2 bt196.1).bind fun bt198 => (some bt198.1))))) else (none)) else (none)) = some r := by first | (rw [hji3] at H; exact H) | (simp only [hji3] at H ⊢; exact H)
 (try (have hji3h : ji3 ≤ 40 := by (rw [← hji3]; unfold mn; (repeat' split) <;> omega)))
 (try (have hji3g : ji3 ≤ 64 := by omega))
 (try (have hji3l : 0 ≤ ji3 := by (rw [← hji3]; unfold mn; (repeat' split) <;> omega)))
 (try (have hji3m : 0 ≤ ji3 := by omega))
 have hji3_ : (if 40 < (a0_7.size : Int) then 40 else (a0_7.size : Int)) = ji3 := hji3
 replace H := IU H
 obtain ⟨c4b0, c4b1, H⟩ := H
 replace H := IU H
 obtain ⟨c5b0, c5b1, H⟩ := H
 by_cases c6 : a1 = 6
 ·rw [if_pos c6] at H
  have c6b0 := BT c6
  have c6b1 := NF c6
  clear c6
  replace H := OB H
  obtain ⟨⟨t192, t193⟩, A7, H⟩ := H
  (try set_option simprocs false in dsimp only at H)
  replace H := OB H
  obtain ⟨⟨t194, t195⟩, A8, H⟩ := H
  (try set_option simprocs false in dsimp only at H)
  obtain rfl := Option.some.inj H
  go_enter Tryz.func12, Tryz.ntmps12
  go_wp2_with (first | ((with_reducible refine gate_dst (N := 2) rfl ?_); refine bx 2 25 (rr11 a0_0 a0_1 a0_2 a0_3 a0_4 a0_5 a0_6 a0_7 a0_8 a0_9 a0_10) ?_; intro gb191 hg w9 hbox hb; have BK191 := AA hbox; have GW191 := GS hg HB; have GE191 := GS hg HB; replace HB := BS HB hb; clear hb hbox hg; have hz10 := blk11 BK191.out) | ((with_reducible refine gkx 35 rfl ?_); refine goesL_ (some 36) rfl rfl Tryz.func35 (by kernel_rfl) rfl #[.agg #[.int .i64 (wrap64 (a0_3)), .int .i64 (wrap64 (a0_4)), .int .u32 7, .int .u32 0, .int .i64 (wrap64 (Int.tmod a0_5 64)), .int .i64 9, .int .i64 0, .string (⟨#[]⟩ : ByteArray)], .string (a0_7.extract 0 ((ji3) : Int).toNat)] rfl (by (try simp only [List.map_toArray, List.map_cons, List.map_nil]); first | done | (simp only [hji3]; rfl) | rfl | (simp only [List.length_drop, List.length_take]; rfl)) ?_; (with_reducible refine (weighbridgeref05_Build.calls (wrap64 (a0_3)) (wrap64 (a0_4)) 7 0 (wrap64 (Int.tmod a0_5 64)) 9 0 (⟨#[]⟩ : ByteArray) (a0_7.extract 0 ((ji3) : Int).toNat) t192 t193 _ A7.out).mono ?_); rintro e w11 ⟨rfl, hb⟩; (try clear A7); refine ⟨_, rfl, ?_⟩; replace BK191 := BB BK191 hb; replace HB := BS HB hb; (try clear hb); have hz12 := blk11 BK191.out) | ((with_reducible refine gkx 36 rfl ?_); refine gL 46 Tryz.func36 rfl (weighbridgeref08_Fill.calls a1 a0_1 a0_2 t192 t194 t195 _ A8.out) ?_; rintro w13 hb; (try clear A8); replace BK191 := BB BK191 hb; replace HB := BS HB hb; (try clear hb)))
  go_ret
  exact ⟨by first | rfl | (simp [errW_none, errW_some] <;> rfl) | (simp only [← hji3]; first | rfl | (simp [errW_none, errW_some] <;> rfl)) | (simp [*, errW_none, errW_some] <;> rfl), BW HB⟩
 rw [if_neg c6] at H
 have c6b0 := BF c6
 have c6b1 := NT c6
 replace H := OB H
 obtain ⟨⟨t196, t197⟩, A14, H⟩ := H
 (try set_option simprocs false in dsimp only at H)
 by_cases c15 : a0_8 = true
 ·subst c15
  first | rw [if_pos rfl] at H | rw [if_pos trivial] at H
  obtain rfl := Option.some.inj H
  go_enter Tryz.func12, Tryz.ntmps12
  go_wp2_with (first | ((with_reducible refine gate_dst (N := 2) rfl ?_); refine bx 2 25 (rr11 a0_0 a0_1 a0_2 a0_3 a0_4 a0_5 a0_6 a0_7 true a0_9 a0_10) ?_; intro gb191 hg w16 hbox hb; have BK191 := AA hbox; have GW191 := GS hg HB; have GE191 := GS hg HB; replace HB := BS HB hb; clear hb hbox hg; have hz17 := blk11 BK191.out) | ((with_reducible refine gkx 37 rfl ?_); refine goesL_ (some 58) rfl rfl Tryz.func37 (by kernel_rfl) rfl #[.int .i64 (wrap64 (a0_3)), .int .i64 (wrap64 (a0_4)), .string (a0_7.extract 0 ((ji3) : Int).toNat)] rfl (by (try simp only [List.map_toArray, List.map_cons, List.map_nil]); first | done | (simp only [hji3]; rfl) | rfl | (simp only [List.length_drop, List.length_take]; rfl)) ?_; (with_reducible refine (weighbridgeref06_Build.calls (wrap64 (a0_3)) (wrap64 (a0_4)) (a0_7.extract 0 ((ji3) : Int).toNat) t196 t197 _ A14.out).mono ?_); rintro e w18 ⟨rfl, hb⟩; (try clear A14); refine ⟨_, rfl, ?_⟩; replace BK191 := BB BK191 hb; replace HB := BS HB hb; (try clear hb); have hz19 := blk11 BK191.out))
  go_ret
  exact ⟨by first | rfl | (simp [errW_none, errW_some] <;> rfl) | (simp only [← hji3]; first | rfl | (simp [errW_none, errW_some] <;> rfl)) | (simp [*, errW_none, errW_some] <;> rfl), BW HB⟩
 replace c15 := Bool.eq_false_iff.mpr c15
 subst c15
 replace H := IFN H
 replace H := OB H
 obtain ⟨⟨t198, t199⟩, A20, H⟩ := H
 (try set_option simprocs false in dsimp only at H)
 obtain rfl := Option.some.inj H
 go_enter Tryz.func12, Tryz.ntmps12
 go_wp2_with (first | ((with_reducible refine gate_dst (N := 2) rfl ?_); refine bx 2 25 (rr11 a0_0 a0_1 a0_2 a0_3 a0_4 a0_5 a0_6 a0_7 false a0_9 a0_10) ?_; intro gb191 hg w21 hbox hb; have BK191 := AA hbox; have GW191 := GS hg HB; have GE191 := GS hg HB; replace HB := BS HB hb; clear hb hbox hg; have hz22 := blk11 BK191.out) | ((with_reducible refine gkx 37 rfl ?_); refine goesL_ (some 58) rfl rfl Tryz.func37 (by kernel_rfl) rfl #[.int .i64 (wrap64 (a0_3)), .int .i64 (wrap64 (a0_4)), .string (a0_7.extract 0 ((ji3) : Int).toNat)] rfl (by (try simp only [List.map_toArray, List.map_cons, List.map_nil]); first | done | (simp only [hji3]; rfl) | rfl | (simp only [List.length_drop, List.length_take]; rfl)) ?_; (with_reducible refine (weighbridgeref06_Build.calls (wrap64 (a0_3)) (wrap64 (a0_4)) (a0_7.extract 0 ((ji3) : Int).toNat) t196 t197 _ A14.out).mono ?_); rintro e w23 ⟨rfl, hb⟩; (try clear A14); refine ⟨_, rfl, ?_⟩; replace BK191 := BB BK191 hb; replace HB := BS HB hb; (try clear hb); have hz24 := blk11 BK191.out) | ((with_reducible refine gkx 36 rfl ?_); refine gL 71 Tryz.func36 rfl (weighbridgeref08_Fill.calls a1 a0_1 a0_2 t196 t198 t199 _ A20.out) ?_; rintro w25 hb; (try clear A20); replace BK191 := BB BK191 hb; replace HB := BS HB hb; (try clear hb)))
 go_ret
 exact ⟨by first | rfl | (simp [errW_none, errW_some] <;> rfl) | (simp only [← hji3]; first | rfl | (simp [errW_none, errW_some] <;> rfl)) | (simp [*, errW_none, errW_some] <;> rfl), BW HB⟩

theorem l10_cut (s : ByteArray) : 0 ≤ mn (s.size : Int) 40 ∧ mn (s.size : Int) 40 ≤ (s.size : Int) ∧ s.extract 0 (mn (s.size : Int) 40).toNat = lb ((bl s).take 40) := by
 have h : (mn (s.size : Int) 40).toNat = min s.size 40 := by unfold mn; omega
 refine ⟨by unfold mn; omega, by unfold mn; omega, Sp.bl_inj ?_⟩
 rw [Sp.bl_extract, Sp.bl_lb, h, List.drop_zero]
 by_cases hs : s.size ≤ 40
 ·rw [List.take_of_length_le (by rw [bl_length]; omega), List.take_of_length_le (by rw [bl_length]; omega)]
 rw [show min s.size 40 = 40 by omega]
theorem l10_tcp {a b c d e f g : Int} {t : List UInt8} : (Sp.tcpBuild a b c d e f g [] t).1.length ≤ 20 + t.length := by
 unfold Sp.tcpBuild
 split
 ·split
  ·exact Nat.zero_le _
  simp
 exact Nat.zero_le _
theorem l10_udp {a b : Int} {t : List UInt8} : (Sp.udpBuild a b t).1.length ≤ 8 + t.length := by
 unfold Sp.udpBuild
 split
 ·split
  ·exact Nat.zero_le _
  simp only [List.length_append, Sp.beBytes_length, List.length_cons, List.length_nil]; omega
 exact Nat.zero_le _
theorem l10_fill (p x y : Int) (s : List UInt8) : (Sp.pfill p x y s).1.length ≤ s.length := by
 unfold Sp.pfill
 split
 ·exact Sp.set_le _ _ _ _
 exact Nat.zero_le _
def l10Dom (k s d sp dp fl tt x y : Int) (b : ByteArray) : Bool := decide ((0 ≤ k ∧ k ≤ 255) ∧ (0 ≤ s ∧ s ≤ 4294967295) ∧ (0 ≤ d ∧ d ≤ 4294967295) ∧ (0 ≤ sp ∧ sp ≤ 65535) ∧ (0 ≤ dp ∧ dp ≤ 65535) ∧ (0 ≤ fl ∧ fl ≤ 255) ∧ (0 ≤ tt ∧ tt ≤ 255) ∧ (0 ≤ x ∧ x ≤ 4294967295) ∧ (0 ≤ y ∧ y ≤ 4294967295) ∧ b.size ≤ 140737488355328)
theorem l10Dom_iff {k s d sp dp fl tt x y : Int} {b : ByteArray} : l10Dom k s d sp dp fl tt x y b = true ↔ (0 ≤ k ∧ k ≤ 255) ∧ (0 ≤ s ∧ s ≤ 4294967295) ∧ (0 ≤ d ∧ d ≤ 4294967295) ∧ (0 ≤ sp ∧ sp ≤ 65535) ∧ (0 ≤ dp ∧ dp ≤ 65535) ∧ (0 ≤ fl ∧ fl ≤ 255) ∧ (0 ≤ tt ∧ tt ≤ 255) ∧ (0 ≤ x ∧ x ≤ 4294967295) ∧ (0 ≤ y ∧ y ≤ 4294967295) ∧ b.size ≤ 140737488355328 := decide_eq_true_iff
def weighbridgelaw10_segment.f (a0_0 a0_1 a0_2 a0_3 a0_4 a0_5 a0_6 : Int) (a0_7 : ByteArray) (a0_8 : Bool) (a0_9 a0_10 a1 : Int) : Option ByteArray := if l10Dom a0_0 a0_1 a0_2 a0_3 a0_4 a0_5 a0_6 a0_9 a0_10 a0_7 = true ∧ (a1 = 6 ∨ a1 = 17) then some (lb (Sp.segment a1 a0_1 a0_2 a0_3 a0_4 a0_5 a0_8 (bl a0_7))) else none
theorem weighbridgelaw10_segment_ev (a0_0 a0_1 a0_2 a0_3 a0_4 a0_5 a0_6 : Int) (a0_7 : ByteArray) (a0_8 : Bool) (a0_9 a0_10 a1 : Int) (r : ByteArray) (h : weighbridgelaw10_segment.f a0_0 a0_1 a0_2 a0_3 a0_4 a0_5 a0_6 a0_7 a0_8 a0_9 a0_10 a1 = some r) : weighbridgelaw10_segment_p.f a0_0 a0_1 a0_2 a0_3 a0_4 a0_5 a0_6 a0_7 a0_8 a0_9 a0_10 a1 = some r := by
 unfold weighbridgelaw10_segment.f at h
 split at h
 case isFalse => cases h
 case isTrue hs =>
  rw [← h]
  obtain ⟨hd, hp⟩ := hs
  obtain ⟨h0, h1, h2, h3, h4, h5, h6, h9, h10, h7⟩ := l10Dom_iff.1 hd
  obtain ⟨c0, c1, c2⟩ := l10_cut a0_7
  have hl : ((bl a0_7).take 40).length ≤ 40 := by rw [List.length_take]; omega
  unfold weighbridgelaw10_segment_p.f Sp.segment
  rw [if_pos c0, if_pos c1, c2, wrap_id (n := a0_3) (by omega) (by omega), wrap_id (n := a0_4) (by omega) (by omega)]
  by_cases h6 : a1 = 6
  ·subst h6
   have hw : wrap64 (Int.tmod a0_5 64) = a0_5 % 64 := by rw [Int.tmod_eq_emod_of_nonneg h5.1]; exact wrap_id (by omega) (by omega)
   have ht := l10_tcp (a := a0_3) (b := a0_4) (c := 7) (d := 0) (e := a0_5 % 64) (f := 9) (g := 0) (t := (bl a0_7).take 40)
   rw [if_pos rfl, if_pos rfl, hw, weighbridgeref05_Build_eq (by decide) (by decide) (by decide) (by rw [lb_size]; omega), Option.bind_some, bl_lb]
   simp only
   rw [weighbridgeref08_Fill_eq (by decide) h1 h2 (by rw [lb_size]; show (Sp.tcpBuild _ _ _ _ _ _ _ [] _).1.length ≤ _; omega), Option.bind_some, bl_lb]
   rfl
  rw [if_neg h6, if_neg h6, weighbridgeref06_Build_eq (by rw [lb_size]; omega), Option.bind_some, bl_lb]
  have hu := l10_udp (a := a0_3) (b := a0_4) (t := (bl a0_7).take 40)
  by_cases hz : a0_8 = true
  ·rw [if_pos hz, if_pos hz]
  rw [if_neg hz, if_neg hz]
  simp only
  rw [weighbridgeref08_Fill_eq ⟨by omega, by omega⟩ h1 h2 (by rw [lb_size]; omega), Option.bind_some, bl_lb]
theorem weighbridgelaw10_segment.calls (a0_0 : Int) (a0_1 : Int) (a0_2 : Int) (a0_3 : Int) (a0_4 : Int) (a0_5 : Int) (a0_6 : Int) (a0_7 : ByteArray) (a0_8 : Bool) (a0_9 : Int) (a0_10 : Int) (a1 : Int) (r : ByteArray) (w : World) (h : weighbridgelaw10_segment.f a0_0 a0_1 a0_2 a0_3 a0_4 a0_5 a0_6 a0_7 a0_8 a0_9 a0_10 a1 = some r) :
  Calls Tryz.prog 12 #[.agg #[.int .u8 a0_0, .int .u32 a0_1, .int .u32 a0_2, .int .u16 a0_3, .int .u16 a0_4, .int .u8 a0_5, .int .u8 a0_6, .string a0_7, .bool a0_8, .int .u32 a0_9, .int .u32 a0_10], .int .i64 a1] w fun e w' => e = .returned (.string r) ∧ Below w.heap.size w w' := by
 have hk := weighbridgelaw10_segment_ev a0_0 a0_1 a0_2 a0_3 a0_4 a0_5 a0_6 a0_7 a0_8 a0_9 a0_10 a1 _ h
 exact weighbridgelaw10_segment_p.calls a0_0 a0_1 a0_2 a0_3 a0_4 a0_5 a0_6 a0_7 a0_8 a0_9 a0_10 a1 r w hk

/-! ### weighbridgelaw10_Make_frame_p: function 6 -/
def weighbridgelaw10_Make_frame_p.j0 : Nat → Int → Int → Int → Int → Int → Int → Int → Int → ByteArray → Bool → Int → Int → Option (ByteArray)
 | 0, _, _, _, _, _, _, _, _, _, _, _, _ => none
 | k + 1, x3, x207000, x207001, x207002, x207003, x207004, x207005, x207006, x207007, x207008, x207009, x207010 => (weighbridgelaw10_segment.f x207000 x207001 x207002 x207003 x207004 x207005 x207006 x207007 x207008 x207009 x207010 x3).bind fun t207 => ((weighbridgeref04_Build.f 0 5 0 0 (wrap64 (x207006)) x3 x207001 x207002 (⟨#[]⟩ : ByteArray) t207).bind fun bt208 => (if (Int.tmod x207000 4) < 2 then (some bt208.1) else (if x207008 = true then (if 0 ≤ 28 then (if 28 ≤ (bt208.1.size : Int) then ((weighbridgeref07_Build.f 3 (wrap64 (Int.tmod x207005 6)) 1400 (bt208.1.extract 0 28)).bind fun bt210 => ((weighbridgeref04_Build.f 0 0 0 0 (wrap64 (x207006)) 1 x207009 x207010 (⟨#[]⟩ : ByteArray) bt210.1).bind fun bt212 => (some bt212.1))) else (none)) else (none)) else (if 0 ≤ (bt208.1.size : Int) then (if (bt208.1.size : Int) ≤ (bt208.1.size : Int) then ((weighbridgeref07_Build.f 3 (wrap64 (Int.tmod x207005 6)) 1400 (bt208.1.extract 0 ((bt208.1.size : Int) : Int).toNat)).bind fun bt214 => ((weighbridgeref04_Build.f 0 0 0 0 (wrap64 (x207006)) 1 x207009 x207010 (⟨#[]⟩ : ByteArray) bt214.1).bind fun bt216 => (some bt216.1))) else (none)) else (none)))))
def weighbridgelaw10_Make_frame_p.f (k : Nat) (a0_0 : Int) (a0_1 : Int) (a0_2 : Int) (a0_3 : Int) (a0_4 : Int) (a0_5 : Int) (a0_6 : Int) (a0_7 : ByteArray) (a0_8 : Bool) (a0_9 : Int) (a0_10 : Int) : Option (ByteArray) := if (Int.tmod a0_0 2) = 1 then (weighbridgelaw10_Make_frame_p.j0 k 17 a0_0 a0_1 a0_2 a0_3 a0_4 a0_5 a0_6 a0_7 a0_8 a0_9 a0_10) else (weighbridgelaw10_Make_frame_p.j0 k 6 a0_0 a0_1 a0_2 a0_3 a0_4 a0_5 a0_6 a0_7 a0_8 a0_9 a0_10)
theorem weighbridgelaw10_Make_frame_p.mono_l : ∀ k, (∀ y0 y1 y2 y3 y4 y5 y6 y7 y8 y9 y10 y11, LeO (weighbridgelaw10_Make_frame_p.j0 k y0 y1 y2 y3 y4 y5 y6 y7 y8 y9 y10 y11) (weighbridgelaw10_Make_frame_p.j0 (k + 1) y0 y1 y2 y3 y4 y5 y6 y7 y8 y9 y10 y11))
 | 0 => fun _ _ _ _ _ _ _ _ _ _ _ _ r h => by simp [weighbridgelaw10_Make_frame_p.j0] at h
 | k + 1 => by
  have ih0 := weighbridgelaw10_Make_frame_p.mono_l k
  ·intro y0 y1 y2 y3 y4 y5 y6 y7 y8 y9 y10 y11
   unfold weighbridgelaw10_Make_frame_p.j0
   repeat' first
   | (with_reducible exact ih0 _ _ _ _ _ _ _ _ _ _ _ _)
   | (with_reducible exact LeO.refl _)
   | (with_reducible exact LeO.none _)
   | (with_reducible refine LeO.ite ?_ ?_)
   | (with_reducible refine LeO.bind ?_ (fun _ => ?_))
   | exact ih0 _ _ _ _ _ _ _ _ _ _ _ _
   | exact LeO.none _
   | refine LeO.ite ?_ ?_
   | refine LeO.bind ?_ (fun _ => ?_)
theorem weighbridgelaw10_Make_frame_p.mono : ∀ a0 a1 a2 a3 a4 a5 a6 a7 a8 a9 a10 k, LeO (weighbridgelaw10_Make_frame_p.f k a0 a1 a2 a3 a4 a5 a6 a7 a8 a9 a10) (weighbridgelaw10_Make_frame_p.f (k + 1) a0 a1 a2 a3 a4 a5 a6 a7 a8 a9 a10) := by
 intro a0 a1 a2 a3 a4 a5 a6 a7 a8 a9 a10 k
 have ih0 := weighbridgelaw10_Make_frame_p.mono_l k
 unfold weighbridgelaw10_Make_frame_p.f
 repeat' first
   | (with_reducible exact ih0 _ _ _ _ _ _ _ _ _ _ _ _)
   | (with_reducible exact LeO.refl _)
   | (with_reducible exact LeO.none _)
   | (with_reducible refine LeO.ite ?_ ?_)
   | (with_reducible refine LeO.bind ?_ (fun _ => ?_))
   | exact ih0 _ _ _ _ _ _ _ _ _ _ _ _
   | exact LeO.none _
   | refine LeO.ite ?_ ?_
   | refine LeO.bind ?_ (fun _ => ?_)
def weighbridgelaw10_Make_frame_p.T4 : Bool × List (List Nat × List Nat) := (true, [([], []), ([0], [0]), ([1], [1]), ([], []), ([], []), ([4], [4]), ([], []), ([6], [6]), ([2, 3, 5, 7], [2, 3, 5, 7]), ([], []), ([], []), ([9, 10], [9, 10]), ([8, 11, 11], [8, 11]), ([12], [12]), ([13], [13]), ([13], [13]), ([14, 12, 0, 1, 2, 3, 4, 5, 6, 7, 8, 9, 10, 11, 12, 13, 14], [14]), ([15, 16, 0, 1, 2, 3, 4, 5, 6, 7, 8, 9, 10, 11, 12, 13, 14, 15, 16], [15])])
def weighbridgelaw10_Make_frame_p.B4 : List Nat := [0, 1, 3, 0, 0, 16, 0, 64, 255, 0, 0, 1536, 4095, 8191, 16383, 16383, 32767, 131071]
theorem weighbridgelaw10_Make_frame_p.tab4 : rtab .any (opsOf Tryz.f6 4) = weighbridgelaw10_Make_frame_p.T4 := by kernel_rfl
theorem weighbridgelaw10_Make_frame_p.bits4 : waitsOk weighbridgelaw10_Make_frame_p.T4.2 weighbridgelaw10_Make_frame_p.B4 = true := by kernel_rfl
def weighbridgelaw10_Make_frame_p.T10 : Bool × List (List Nat × List Nat) := (true, [([], []), ([0], [0]), ([1], [1]), ([2], [2]), ([], []), ([], []), ([4, 5], [4, 5]), ([3, 6], [3, 6]), ([7], [7]), ([8], [8]), ([9], [9]), ([9], [9]), ([10, 8, 0, 1, 2, 3, 4, 5, 6, 7, 8, 9, 10], [10]), ([11, 12, 0, 1, 2, 3, 4, 5, 6, 7, 8, 9, 10, 11, 12], [11])])
def weighbridgelaw10_Make_frame_p.B10 : List Nat := [0, 1, 3, 7, 0, 0, 48, 127, 255, 511, 1023, 1023, 2047, 8191]
theorem weighbridgelaw10_Make_frame_p.tab10 : rtab .any (opsOf Tryz.f6 10) = weighbridgelaw10_Make_frame_p.T10 := by kernel_rfl
theorem weighbridgelaw10_Make_frame_p.bits10 : waitsOk weighbridgelaw10_Make_frame_p.T10.2 weighbridgelaw10_Make_frame_p.B10 = true := by kernel_rfl
set_option maxHeartbeats 8000000 in
set_option maxRecDepth 100000 in
theorem weighbridgelaw10_Make_frame_p.calls (k : Nat) (a0_0 : Int) (a0_1 : Int) (a0_2 : Int) (a0_3 : Int) (a0_4 : Int) (a0_5 : Int) (a0_6 : Int) (a0_7 : ByteArray) (a0_8 : Bool) (a0_9 : Int) (a0_10 : Int) (r : ByteArray) (w : World) (h : weighbridgelaw10_Make_frame_p.f k a0_0 a0_1 a0_2 a0_3 a0_4 a0_5 a0_6 a0_7 a0_8 a0_9 a0_10 = some r) :
  Calls Tryz.prog 6 #[.agg #[.int .u8 a0_0, .int .u32 a0_1, .int .u32 a0_2, .int .u16 a0_3, .int .u16 a0_4, .int .u8 a0_5, .int .u8 a0_6, .string a0_7, .bool a0_8, .int .u32 a0_9, .int .u32 a0_10]] w fun e w' => e = .returned (.string r) ∧ Below w.heap.size w w' := by
 have hu25 := Tryz.underlying25
 have hu43 := Tryz.underlying43
 have hu47 := Tryz.underlying47
 have HB := AA (Below.refl w.heap.size w)
 have H := h
 unfold weighbridgelaw10_Make_frame_p.f at H
 clear h
 have HC2 := AA H
 clear H
 go_enter Tryz.func6, Tryz.ntmps6
 go_upto_if 14 with (first | ((with_reducible refine gate_dst (N := 1) rfl ?_); refine bx 1 25 (rr11 a0_0 a0_1 a0_2 a0_3 a0_4 a0_5 a0_6 a0_7 a0_8 a0_9 a0_10) ?_; intro gb206 hg w3 hbox hb; have BK206 := AA hbox; have GW206 := GS hg HB; have GE206 := GS hg HB; replace HB := BS HB hb; clear hb hbox hg; have hz4 := blk11 BK206.out))
 (try simp only [Act.put, List.setIfInBounds_toArray, List.set_cons_zero, List.set_cons_succ])
 go_cut [3] (fun v3 wc => ∃ (kq : Nat) (x3_1 : Int), v3 = .int .i64 x3_1 ∧ Aside0 (weighbridgelaw10_Make_frame_p.j0 kq x3_1 a0_0 a0_1 a0_2 a0_3 a0_4 a0_5 a0_6 a0_7 a0_8 a0_9 a0_10 = some r) ∧ Aside0 (kq ≤ k) ∧ Aside0 (wc.heap[gb206]? = some (.cells (rr11 a0_0 a0_1 a0_2 a0_3 a0_4 a0_5 a0_6 a0_7 a0_8 a0_9 a0_10) 25 (0, 0))) ∧ Aside0 (Below w.heap.size w wc))
 case first =>
  have H := HC2.out
  clear HC2
  by_cases c5 : (Int.tmod a0_0 2) = 1
  ·rw [if_pos c5] at H
   have c5b0 := BT c5
   have c5b1 := NF c5
   clear c5
   (first | rw [c5b0] | (simp only [i64_w, i32_w]; rw [c5b0]) | skip)
   have H' := AA H
   clear H
   go_wp2
   go_meet
   case rel => exact ⟨_, (17), QS, H', LR, ⟨BD BK206⟩, ⟨BW HB⟩⟩
  rw [if_neg c5] at H
  have c5b0 := BF c5
  have c5b1 := NT c5
  (first | rw [c5b0] | (simp only [i64_w, i32_w]; rw [c5b0]) | skip)
  have H' := AA H
  clear H
  go_wp2
  go_meet
  case rel => exact ⟨_, (6), QS, H', LR, ⟨BD BK206⟩, ⟨BW HB⟩⟩
 case rest =>
  clear HC2
  try clear p2; try clear c5; try clear c5b0; try clear c5b1; try clear hz4
  obtain ⟨kq, x3_1, rfl, HA, HJ1, BK206, HB⟩ := hcut
  cases kq with
  | zero => exact absurd HA.out (by simp [weighbridgelaw10_Make_frame_p.j0])
  | succ kj1 =>
   have H := HA.out
   clear HA
   simp only [weighbridgelaw10_Make_frame_p.j0] at H
   replace H := OB H
   obtain ⟨t207, A6, H⟩ := H
   (try set_option simprocs false in dsimp only at H)
   replace H := OB H
   obtain ⟨⟨t208, t209⟩, A7, H⟩ := H
   (try set_option simprocs false in dsimp only at H)
   by_cases c8 : (Int.tmod a0_0 4) < 2
   ·rw [if_pos c8] at H
    have c8b0 := decide_eq_true c8
    clear c8
    obtain rfl := Option.some.inj H
    try go_wp2
    replace BK206 := AA (blk_drew BK206.out)
    replace HB := AA (below_drew1 HB.out)
    refine start_ (n := 18) (S := fun w' => c11 gb206 a0_0 a0_1 a0_2 a0_3 a0_4 a0_5 a0_6 a0_7 a0_8 a0_9 a0_10 w') (ds := []) (bm 18 0x0) (by kernel_rfl) rfl rfl (HCs BK206) (fun hHeld => ?_); refine with_tabW weighbridgelaw10_Make_frame_p.tab4 weighbridgelaw10_Make_frame_p.bits4 (fun HT_ HW_ => ?_)
    generalize wc.drew = w9 at BK206 HB hHeld ⊢
    refine pu 0 16 (bm 18 0x1) HT_ ?_
    refine pu 3 19 (bm 18 0x9) HT_ ?_
    refine pu 4 20 (bm 18 0x19) HT_ ?_
    refine pu 6 22 (bm 18 0x59) HT_ ?_
    refine pu 10 26 (bm 18 0x459) HT_ ?_
    refine tw 1 17 (bm 18 0x45b) HT_ HW_ hHeld ?_
    refine pu 2 18 (bm 18 0x45f) HT_ ?_
    refine tw 5 21 (bm 18 0x47f) HT_ HW_ hHeld ?_
    refine tw 7 23 (bm 18 0x4ff) HT_ HW_ hHeld ?_
    refine pu 8 24 (bm 18 0x5ff) HT_ ?_
    refine tw 9 25 (bm 18 0x7ff) HT_ HW_ hHeld ?_
    refine oN 11 27 (bm 18 0xfff) HT_ (fun K hK => ?_)
    refine gR Tryz.func12 rfl rfl (weighbridgelaw10_segment.calls a0_0 a0_1 a0_2 a0_3 a0_4 a0_5 a0_6 a0_7 a0_8 a0_9 a0_10 x3_1 t207 _ A6.out) ?_
    rintro w10 hb
    replace BK206 := BB BK206 hb
    replace HB := BS HB hb
    try clear hb
    refine hK.out _ _ (HCs BK206) (fun hHeld => ?_)
    clear hK K
    refine nm 27 ?_
    refine oN 12 28 (bm 18 0x1fff) HT_ (fun K hK => ?_)
    refine gR Tryz.func11 rfl rfl (weighbridgeref04_Build.calls 0 5 0 0 (wrap64 (a0_6)) x3_1 a0_1 a0_2 (⟨#[]⟩ : ByteArray) t207 t208 t209 _ A7.out) ?_
    rintro w11 hb
    replace BK206 := BB BK206 hb
    replace HB := BS HB hb
    try clear hb
    refine hK.out _ _ (HCs BK206) (fun hHeld => ?_)
    clear hK K
    refine nm 28 ?_
    refine pu 13 15 (bm 18 0x3fff) HT_ ?_
    refine pu 14 29 (bm 18 0x7fff) HT_ ?_
    refine pu 15 30 (bm 18 0xffff) HT_ ?_
    refine pu 16 4 (bm 18 0x1ffff) HT_ ?_
    refine pu 17 5 (bm 18 0x3ffff) HT_ ?_
    refine done_ (done_of HT_.out (by kernel_rfl)) ?_
    have hz12 := blk11 BK206.out
    try go_wp2
    go_ret
    exact ⟨RT, BW HB⟩
   rw [if_neg c8] at H
   have c8b0 := decide_eq_false c8
   clear c8
   by_cases c13 : a0_8 = true
   ·subst c13
    first | rw [if_pos rfl] at H | rw [if_pos trivial] at H
    replace H := IU H
    obtain ⟨c14b0, c14b1, H⟩ := H
    replace H := IU H
    obtain ⟨c15b0, c15b1, H⟩ := H
    replace H := OB H
    obtain ⟨⟨t210, t211⟩, A16, H⟩ := H
    (try set_option simprocs false in dsimp only at H)
    replace H := OB H
    obtain ⟨⟨t212, t213⟩, A17, H⟩ := H
    (try set_option simprocs false in dsimp only at H)
    obtain rfl := Option.some.inj H
    try go_wp2
    replace BK206 := AA (blk_drew BK206.out)
    replace HB := AA (below_drew1 HB.out)
    refine start_ (n := 18) (S := fun w' => c11 gb206 a0_0 a0_1 a0_2 a0_3 a0_4 a0_5 a0_6 a0_7 true a0_9 a0_10 w') (ds := []) (bm 18 0x0) (by kernel_rfl) rfl rfl (HCs BK206) (fun hHeld => ?_); refine with_tabW weighbridgelaw10_Make_frame_p.tab4 weighbridgelaw10_Make_frame_p.bits4 (fun HT_ HW_ => ?_)
    generalize wc.drew = w18 at BK206 HB hHeld ⊢
    refine pu 0 16 (bm 18 0x1) HT_ ?_
    refine pu 3 19 (bm 18 0x9) HT_ ?_
    refine pu 4 20 (bm 18 0x19) HT_ ?_
    refine pu 6 22 (bm 18 0x59) HT_ ?_
    refine pu 10 26 (bm 18 0x459) HT_ ?_
    refine tw 1 17 (bm 18 0x45b) HT_ HW_ hHeld ?_
    refine pu 2 18 (bm 18 0x45f) HT_ ?_
    refine tw 5 21 (bm 18 0x47f) HT_ HW_ hHeld ?_
    refine tw 7 23 (bm 18 0x4ff) HT_ HW_ hHeld ?_
    refine pu 8 24 (bm 18 0x5ff) HT_ ?_
    refine tw 9 25 (bm 18 0x7ff) HT_ HW_ hHeld ?_
    refine oN 11 27 (bm 18 0xfff) HT_ (fun K hK => ?_)
    refine gR Tryz.func12 rfl rfl (weighbridgelaw10_segment.calls a0_0 a0_1 a0_2 a0_3 a0_4 a0_5 a0_6 a0_7 true a0_9 a0_10 x3_1 t207 _ A6.out) ?_
    rintro w19 hb
    replace BK206 := BB BK206 hb
    replace HB := BS HB hb
    try clear hb
    refine hK.out _ _ (HCs BK206) (fun hHeld => ?_)
    clear hK K
    refine nm 27 ?_
    refine oN 12 28 (bm 18 0x1fff) HT_ (fun K hK => ?_)
    refine gR Tryz.func11 rfl rfl (weighbridgeref04_Build.calls 0 5 0 0 (wrap64 (a0_6)) x3_1 a0_1 a0_2 (⟨#[]⟩ : ByteArray) t207 t208 t209 _ A7.out) ?_
    rintro w20 hb
    replace BK206 := BB BK206 hb
    replace HB := BS HB hb
    try clear hb
    refine hK.out _ _ (HCs BK206) (fun hHeld => ?_)
    clear hK K
    refine nm 28 ?_
    refine pu 13 15 (bm 18 0x3fff) HT_ ?_
    refine pu 14 29 (bm 18 0x7fff) HT_ ?_
    refine pu 15 30 (bm 18 0xffff) HT_ ?_
    refine pu 16 4 (bm 18 0x1ffff) HT_ ?_
    refine pu 17 5 (bm 18 0x3ffff) HT_ ?_
    refine done_ (done_of HT_.out (by kernel_rfl)) ?_
    have hz21 := blk11 BK206.out
    try go_wp2
    replace BK206 := AA (blk_drew BK206.out)
    replace HB := AA (below_drew1 HB.out)
    refine start_ (n := 14) (S := fun w' => c11 gb206 a0_0 a0_1 a0_2 a0_3 a0_4 a0_5 a0_6 a0_7 true a0_9 a0_10 w') (ds := []) (bm 14 0x0) (by kernel_rfl) rfl rfl (HCs BK206) (fun hHeld => ?_); refine with_tabW weighbridgelaw10_Make_frame_p.tab10 weighbridgelaw10_Make_frame_p.bits10 (fun HT_ HW_ => ?_)
    generalize w20.drew = w22 at BK206 HB hHeld ⊢
    refine pu 0 41 (bm 14 0x1) HT_ ?_
    refine pu 4 45 (bm 14 0x11) HT_ ?_
    refine pu 5 46 (bm 14 0x31) HT_ ?_
    refine pu 6 47 (bm 14 0x71) HT_ ?_
    refine tw 1 42 (bm 14 0x73) HT_ HW_ hHeld ?_
    refine pu 2 43 (bm 14 0x77) HT_ ?_
    refine pu 3 44 (bm 14 0x7f) HT_ ?_
    refine pu 7 48 (bm 14 0xff) HT_ ?_
    refine oN 8 49 (bm 14 0x1ff) HT_ (fun K hK => ?_)
    refine gR Tryz.func13 rfl rfl (weighbridgeref07_Build.calls 3 (wrap64 (Int.tmod a0_5 6)) 1400 (t208.extract 0 28) t210 t211 _ A16.out) ?_
    rintro w23 hb
    replace BK206 := BB BK206 hb
    replace HB := BS HB hb
    try clear hb
    refine hK.out _ _ (HCs BK206) (fun hHeld => ?_)
    clear hK K
    refine nm 49 ?_
    refine pu 9 40 (bm 14 0x3ff) HT_ ?_
    refine pu 10 50 (bm 14 0x7ff) HT_ ?_
    refine pu 11 51 (bm 14 0xfff) HT_ ?_
    refine pu 12 7 (bm 14 0x1fff) HT_ ?_
    refine pu 13 8 (bm 14 0x3fff) HT_ ?_
    refine done_ (done_of HT_.out (by kernel_rfl)) ?_
    have hz24 := blk11 BK206.out
    try go_wp2_with (first | ((with_reducible refine gkx 11 rfl ?_); refine gL 62 Tryz.func11 rfl (weighbridgeref04_Build.calls 0 0 0 0 (wrap64 (a0_6)) 1 a0_9 a0_10 (⟨#[]⟩ : ByteArray) t210 t212 t213 _ A17.out) ?_; rintro w25 hb; (try clear A17); replace BK206 := BB BK206 hb; replace HB := BS HB hb; (try clear hb)))
    go_ret
    exact ⟨RT, BW HB⟩
   replace c13 := Bool.eq_false_iff.mpr c13
   subst c13
   replace H := IFN H
   replace H := IU H
   obtain ⟨c26b0, c26b1, H⟩ := H
   replace H := IU H
   obtain ⟨c27b0, c27b1, H⟩ := H
   replace H := OB H
   obtain ⟨⟨t214, t215⟩, A28, H⟩ := H
   (try set_option simprocs false in dsimp only at H)
   replace H := OB H
   obtain ⟨⟨t216, t217⟩, A29, H⟩ := H
   (try set_option simprocs false in dsimp only at H)
   obtain rfl := Option.some.inj H
   try go_wp2
   replace BK206 := AA (blk_drew BK206.out)
   replace HB := AA (below_drew1 HB.out)
   refine start_ (n := 18) (S := fun w' => c11 gb206 a0_0 a0_1 a0_2 a0_3 a0_4 a0_5 a0_6 a0_7 false a0_9 a0_10 w') (ds := []) (bm 18 0x0) (by kernel_rfl) rfl rfl (HCs BK206) (fun hHeld => ?_); refine with_tabW weighbridgelaw10_Make_frame_p.tab4 weighbridgelaw10_Make_frame_p.bits4 (fun HT_ HW_ => ?_)
   generalize wc.drew = w30 at BK206 HB hHeld ⊢
   refine pu 0 16 (bm 18 0x1) HT_ ?_
   refine pu 3 19 (bm 18 0x9) HT_ ?_
   refine pu 4 20 (bm 18 0x19) HT_ ?_
   refine pu 6 22 (bm 18 0x59) HT_ ?_
   refine pu 10 26 (bm 18 0x459) HT_ ?_
   refine tw 1 17 (bm 18 0x45b) HT_ HW_ hHeld ?_
   refine pu 2 18 (bm 18 0x45f) HT_ ?_
   refine tw 5 21 (bm 18 0x47f) HT_ HW_ hHeld ?_
   refine tw 7 23 (bm 18 0x4ff) HT_ HW_ hHeld ?_
   refine pu 8 24 (bm 18 0x5ff) HT_ ?_
   refine tw 9 25 (bm 18 0x7ff) HT_ HW_ hHeld ?_
   refine oN 11 27 (bm 18 0xfff) HT_ (fun K hK => ?_)
   refine gR Tryz.func12 rfl rfl (weighbridgelaw10_segment.calls a0_0 a0_1 a0_2 a0_3 a0_4 a0_5 a0_6 a0_7 false a0_9 a0_10 x3_1 t207 _ A6.out) ?_
   rintro w31 hb
   replace BK206 := BB BK206 hb
   replace HB := BS HB hb
   try clear hb
   refine hK.out _ _ (HCs BK206) (fun hHeld => ?_)
   clear hK K
   refine nm 27 ?_
   refine oN 12 28 (bm 18 0x1fff) HT_ (fun K hK => ?_)
   refine gR Tryz.func11 rfl rfl (weighbridgeref04_Build.calls 0 5 0 0 (wrap64 (a0_6)) x3_1 a0_1 a0_2 (⟨#[]⟩ : ByteArray) t207 t208 t209 _ A7.out) ?_
   rintro w32 hb
   replace BK206 := BB BK206 hb
   replace HB := BS HB hb
   try clear hb
   refine hK.out _ _ (HCs BK206) (fun hHeld => ?_)
   clear hK K
   refine nm 28 ?_
   refine pu 13 15 (bm 18 0x3fff) HT_ ?_
   refine pu 14 29 (bm 18 0x7fff) HT_ ?_
   refine pu 15 30 (bm 18 0xffff) HT_ ?_
   refine pu 16 4 (bm 18 0x1ffff) HT_ ?_
   refine pu 17 5 (bm 18 0x3ffff) HT_ ?_
   refine done_ (done_of HT_.out (by kernel_rfl)) ?_
   have hz33 := blk11 BK206.out
   try go_wp2
   replace BK206 := AA (blk_drew BK206.out)
   replace HB := AA (below_drew1 HB.out)
   refine start_ (n := 14) (S := fun w' => c11 gb206 a0_0 a0_1 a0_2 a0_3 a0_4 a0_5 a0_6 a0_7 false a0_9 a0_10 w') (ds := []) (bm 14 0x0) (by kernel_rfl) rfl rfl (HCs BK206) (fun hHeld => ?_); refine with_tabW weighbridgelaw10_Make_frame_p.tab10 weighbridgelaw10_Make_frame_p.bits10 (fun HT_ HW_ => ?_)
   generalize w32.drew = w34 at BK206 HB hHeld ⊢
   refine pu 0 41 (bm 14 0x1) HT_ ?_
   refine pu 4 45 (bm 14 0x11) HT_ ?_
   refine pu 5 46 (bm 14 0x31) HT_ ?_
   refine pu 6 47 (bm 14 0x71) HT_ ?_
   refine tw 1 42 (bm 14 0x73) HT_ HW_ hHeld ?_
   refine pu 2 43 (bm 14 0x77) HT_ ?_
   refine pu 3 44 (bm 14 0x7f) HT_ ?_
   refine pu 7 48 (bm 14 0xff) HT_ ?_
   refine oN 8 49 (bm 14 0x1ff) HT_ (fun K hK => ?_)
   refine gR Tryz.func13 rfl rfl (weighbridgeref07_Build.calls 3 (wrap64 (Int.tmod a0_5 6)) 1400 (t208.extract 0 ((t208.size : Int) : Int).toNat) t214 t215 _ A28.out) ?_
   rintro w35 hb
   replace BK206 := BB BK206 hb
   replace HB := BS HB hb
   try clear hb
   refine hK.out _ _ (HCs BK206) (fun hHeld => ?_)
   clear hK K
   refine nm 49 ?_
   refine pu 9 40 (bm 14 0x3ff) HT_ ?_
   refine pu 10 50 (bm 14 0x7ff) HT_ ?_
   refine pu 11 51 (bm 14 0xfff) HT_ ?_
   refine pu 12 7 (bm 14 0x1fff) HT_ ?_
   refine pu 13 8 (bm 14 0x3fff) HT_ ?_
   refine done_ (done_of HT_.out (by kernel_rfl)) ?_
   have hz36 := blk11 BK206.out
   try go_wp2_with (first | ((with_reducible refine gkx 11 rfl ?_); refine gL 62 Tryz.func11 rfl (weighbridgeref04_Build.calls 0 0 0 0 (wrap64 (a0_6)) 1 a0_9 a0_10 (⟨#[]⟩ : ByteArray) t214 t216 t217 _ A29.out) ?_; rintro w37 hb; (try clear A29); replace BK206 := BB BK206 hb; replace HB := BS HB hb; (try clear hb)))
   go_ret
   exact ⟨RT, BW HB⟩

theorem l10_fill6 {x y : Int} {s : List UInt8} (hx : 0 ≤ x ∧ x ≤ 4294967295) (hy : 0 ≤ y ∧ y ≤ 4294967295) (h : 18 ≤ s.length) : (Sp.pfill 6 x y s).1.length = s.length := by
 have hh : Sp.has s 16 2 = true := Sp.has_iff.2 ⟨by decide, by decide, by decide, by omega⟩
 have f : (Sp.zeroed 6 s).2 = true := by
  unfold Sp.zeroed Sp.cov
  rw [if_neg (fun h => absurd h.1 (by decide))]
  show (Sp.set s 16 2 0).2 = true
  rw [Sp.set_yes (by decide) hh]
 have hc : Sp.pcheck 6 x y s = (Sp.pnum 6 x y (Sp.zeroed 6 s).1, true) := by unfold Sp.pcheck; rw [if_pos ⟨rfl, f⟩]
 have hn := Sp.pnum_bounds (p := 6) (s := (Sp.zeroed 6 s).1) rfl hx hy
 unfold Sp.pfill
 rw [hc, if_pos rfl]
 exact Sp.set_length s 16 2 _ (by rw [Sp.set_yes (Sp.fits2.2 ⟨hn.1, hn.2⟩) hh])
theorem l10_ip {a b c d e f x y : Int} {t : List UInt8} : (Sp.ip4Build a b c d e f x y [] t).1.length ≤ 1500 := by
 unfold Sp.ip4Build
 split
 ·split
  ·exact Nat.zero_le _
  show (Sp.ip4Full a b c d e f x y [] _ ++ t).length ≤ 1500
  rw [List.length_append, Sp.ip4Full_length]
  simp only [List.length_nil] at *; omega
 exact Nat.zero_le _
theorem l10_icmp {a b c : Int} {t : List UInt8} : (Sp.icmpBuild a b c t).1.length ≤ 1500 := by
 unfold Sp.icmpBuild
 split
 case isTrue h =>
  split
  ·exact Nat.zero_le _
  show (Sp.icmpBytes a b c t _).1.length ≤ 1500
  rw [Sp.icmpBytes_length h]; omega
 case isFalse => exact Nat.zero_le _
theorem l10_seg {p x y a b e : Int} {z : Bool} {t : List UInt8} (hp : p = 6 ∨ p = 17) (hx : 0 ≤ x ∧ x ≤ 4294967295) (hy : 0 ≤ y ∧ y ≤ 4294967295) (ha : 0 ≤ a ∧ a ≤ 65535) (hb : 0 ≤ b ∧ b ≤ 65535) (he : 0 ≤ e) : (Sp.segment p x y a b e z t).length ≤ 60 ∧ (z = true → 8 ≤ (Sp.segment p x y a b e z t).length) := by
 have hl : (t.take 40).length ≤ 40 := by rw [List.length_take]; omega
 unfold Sp.segment
 by_cases h6 : p = 6
 ·subst h6
  rw [if_pos rfl]
  have ht : (Sp.tcpBuild a b 7 0 (e % 64) 9 0 [] (t.take 40)).1.length = 20 + (t.take 40).length := by
   have R : Sp.tcpRight a b (e % 64) 9 0 [] = true := Sp.tcpRight_iff.2 ⟨Sp.fits2.2 ha, Sp.fits2.2 hb, by decide, by decide, ⟨by omega, by omega⟩, by decide, rfl⟩
   unfold Sp.tcpBuild
   rw [if_pos R, if_neg (by simp only [List.length_nil]; omega)]
   simp
  rw [l10_fill6 hx hy (by omega)]
  exact ⟨by omega, fun _ => by omega⟩
 rw [if_neg h6]
 have hu : (Sp.udpBuild a b (t.take 40)).1.length = 8 + (t.take 40).length := by rw [Sp.udpBuild_ok (Sp.fits2.2 ha) (Sp.fits2.2 hb) (by omega), List.length_append, Sp.udpHead_length]
 by_cases hz : z = true
 ·rw [if_pos hz]; exact ⟨by omega, fun _ => by omega⟩
 rw [if_neg hz]; exact ⟨by have := l10_fill p x y (Sp.udpBuild a b (t.take 40)).1; omega, fun h => absurd h hz⟩
theorem l10_inner {k x y a b e tt : Int} {z : Bool} {t : List UInt8} (hx : 0 ≤ x ∧ x ≤ 4294967295) (hy : 0 ≤ y ∧ y ≤ 4294967295) (ha : 0 ≤ a ∧ a ≤ 65535) (hb : 0 ≤ b ∧ b ≤ 65535) (he : 0 ≤ e) (ht : 0 ≤ tt ∧ tt ≤ 255) : z = true → 28 ≤ (Sp.inner k x y a b e tt t z).length := by
 intro hz
 have hp : Sp.protoOf k = 6 ∨ Sp.protoOf k = 17 := by unfold Sp.protoOf; split <;> simp
 obtain ⟨s1, s2⟩ := l10_seg (z := z) (t := t) hp hx hy ha hb he
 have s3 := s2 hz
 unfold Sp.inner
 generalize Sp.segment (Sp.protoOf k) x y a b e z t = q at *
 have R : Sp.ip4Right 0 5 0 0 tt (Sp.protoOf k) [] = true := Sp.ip4Right_iff.2 ⟨by decide, by decide, by decide, by decide, ht, by omega, by decide, rfl⟩
 unfold Sp.ip4Build
 rw [if_pos R, if_neg (by simp only [List.length_nil]; omega)]
 show 28 ≤ (Sp.ip4Full _ _ _ _ _ _ _ _ [] _ ++ q).length
 rw [List.length_append, Sp.ip4Full_length]; simp only [List.length_nil]; omega
def weighbridgelaw10_Make_frame.f (a0_0 a0_1 a0_2 a0_3 a0_4 a0_5 a0_6 : Int) (a0_7 : ByteArray) (a0_8 : Bool) (a0_9 a0_10 : Int) : Option ByteArray := if l10Dom a0_0 a0_1 a0_2 a0_3 a0_4 a0_5 a0_6 a0_9 a0_10 a0_7 = true then some (lb (Sp.frame a0_0 a0_1 a0_2 a0_3 a0_4 a0_5 a0_6 (bl a0_7) a0_8 a0_9 a0_10)) else none
theorem weighbridgelaw10_Make_frame_eq {a0_0 a0_1 a0_2 a0_3 a0_4 a0_5 a0_6 : Int} {a0_7 : ByteArray} {a0_8 : Bool} {a0_9 a0_10 : Int} (h0 : 0 ≤ a0_0 ∧ a0_0 ≤ 255) (h1 : 0 ≤ a0_1 ∧ a0_1 ≤ 4294967295) (h2 : 0 ≤ a0_2 ∧ a0_2 ≤ 4294967295) (h3 : 0 ≤ a0_3 ∧ a0_3 ≤ 65535) (h4 : 0 ≤ a0_4 ∧ a0_4 ≤ 65535) (h5 : 0 ≤ a0_5 ∧ a0_5 ≤ 255) (h6 : 0 ≤ a0_6 ∧ a0_6 ≤ 255) (h7 : a0_7.size ≤ 140737488355328) (h9 : 0 ≤ a0_9 ∧ a0_9 ≤ 4294967295) (h10 : 0 ≤ a0_10 ∧ a0_10 ≤ 4294967295) :
  weighbridgelaw10_Make_frame.f a0_0 a0_1 a0_2 a0_3 a0_4 a0_5 a0_6 a0_7 a0_8 a0_9 a0_10 = some (lb (Sp.frame a0_0 a0_1 a0_2 a0_3 a0_4 a0_5 a0_6 (bl a0_7) a0_8 a0_9 a0_10)) := by
 unfold weighbridgelaw10_Make_frame.f; exact if_pos (l10Dom_iff.2 ⟨h0, h1, h2, h3, h4, h5, h6, h9, h10, h7⟩)
theorem weighbridgelaw10_Make_frame_ev (a0_0 a0_1 a0_2 a0_3 a0_4 a0_5 a0_6 : Int) (a0_7 : ByteArray) (a0_8 : Bool) (a0_9 a0_10 : Int) (r : ByteArray) (h : weighbridgelaw10_Make_frame.f a0_0 a0_1 a0_2 a0_3 a0_4 a0_5 a0_6 a0_7 a0_8 a0_9 a0_10 = some r) : ∃ k, weighbridgelaw10_Make_frame_p.f k a0_0 a0_1 a0_2 a0_3 a0_4 a0_5 a0_6 a0_7 a0_8 a0_9 a0_10 = some r := by
 unfold weighbridgelaw10_Make_frame.f at h
 split at h
 case isFalse => cases h
 case isTrue hd =>
  rw [← h]
  obtain ⟨h0, h1, h2, h3, h4, h5, h6, h9, h10, h7⟩ := l10Dom_iff.1 hd
  refine ⟨1, ?_⟩
  have J : ∀ p : Int, p = Sp.protoOf a0_0 → weighbridgelaw10_Make_frame_p.j0 1 p a0_0 a0_1 a0_2 a0_3 a0_4 a0_5 a0_6 a0_7 a0_8 a0_9 a0_10 = some (lb (Sp.frame a0_0 a0_1 a0_2 a0_3 a0_4 a0_5 a0_6 (bl a0_7) a0_8 a0_9 a0_10)) := by
   intro p hpe
   have hp : p = 6 ∨ p = 17 := by rw [hpe]; unfold Sp.protoOf; split <;> simp
   obtain ⟨s1, s2⟩ := l10_seg (z := a0_8) (t := bl a0_7) hp h1 h2 h3 h4 h5.1
   have hin := l10_inner (k := a0_0) (z := a0_8) (t := bl a0_7) h1 h2 h3 h4 h5.1 h6
   unfold Sp.frame Sp.about
   unfold Sp.inner at *
   rw [← hpe] at *
   have hI := l10_ip (a := 0) (b := 5) (c := 0) (d := 0) (e := a0_6) (f := p) (x := a0_1) (y := a0_2) (t := Sp.segment p a0_1 a0_2 a0_3 a0_4 a0_5 a0_8 (bl a0_7))
   rw [weighbridgelaw10_Make_frame_p.j0, show weighbridgelaw10_segment.f a0_0 a0_1 a0_2 a0_3 a0_4 a0_5 a0_6 a0_7 a0_8 a0_9 a0_10 p = some (lb (Sp.segment p a0_1 a0_2 a0_3 a0_4 a0_5 a0_8 (bl a0_7))) from if_pos ⟨hd, hp⟩, Option.bind_some, wrap_id (n := a0_6) (by omega) (by omega), weighbridgeref04_Build_eq h1 h2 (by decide) (by rw [lb_size]; omega), Option.bind_some, bl_lb, Int.tmod_eq_emod_of_nonneg h0.1]
   simp only [show bl (⟨#[]⟩ : ByteArray) = [] from rfl]
   generalize (Sp.ip4Build 0 5 0 0 a0_6 p a0_1 a0_2 [] (Sp.segment p a0_1 a0_2 a0_3 a0_4 a0_5 a0_8 (bl a0_7))).1 = q at *
   by_cases h4 : a0_0 % 4 < 2
   ·rw [if_pos h4, if_pos h4]
   ·rw [if_neg h4, if_neg h4, Int.tmod_eq_emod_of_nonneg h5.1, wrap_id (n := a0_5 % 6) (by omega) (by omega)]
    have K : ∀ u : List UInt8, u.length ≤ 1500 → ((weighbridgeref07_Build.f 3 (a0_5 % 6) 1400 (lb u)).bind fun b => ((weighbridgeref04_Build.f 0 0 0 0 a0_6 1 a0_9 a0_10 (⟨#[]⟩ : ByteArray) b.1).bind fun c => some c.1)) = some (lb (Sp.ip4Build 0 0 0 0 a0_6 1 a0_9 a0_10 [] (Sp.icmpBuild 3 (a0_5 % 6) 1400 u).1).1) := by
     intro u hu
     have hC := l10_icmp (a := 3) (b := a0_5 % 6) (c := 1400) (t := u)
     rw [weighbridgeref07_Build_eq (by decide) (by rw [lb_size]; omega), Option.bind_some, bl_lb]
     simp only
     rw [weighbridgeref04_Build_eq h9 h10 (by decide) (by rw [lb_size]; omega), Option.bind_some, bl_lb]
     rfl
    by_cases hz : a0_8 = true
    ·have h28 := hin hz
     rw [if_pos hz, if_pos hz, if_pos (by decide), if_pos (by rw [lb_size]; omega), show (lb q).extract 0 28 = lb (q.take 28) from Sp.bl_inj (by rw [Sp.bl_extract, Sp.bl_lb, Sp.bl_lb, List.drop_zero])]
     exact K _ (by rw [List.length_take]; omega)
    ·rw [if_neg hz, if_neg hz, if_pos (by omega), if_pos (by omega), show (lb q).extract 0 (((lb q).size : Int)).toNat = lb q from Sp.bl_inj (by rw [Sp.bl_extract, Sp.bl_lb, List.drop_zero, List.take_of_length_le (by rw [lb_size]; omega)])]
     exact K _ hI
  unfold weighbridgelaw10_Make_frame_p.f
  rw [Int.tmod_eq_emod_of_nonneg h0.1]
  by_cases hk : a0_0 % 2 = 1
  ·rw [if_pos hk]; exact J 17 (by unfold Sp.protoOf; rw [if_pos hk])
  rw [if_neg hk]; exact J 6 (by unfold Sp.protoOf; rw [if_neg hk])
theorem weighbridgelaw10_Make_frame.calls (a0_0 : Int) (a0_1 : Int) (a0_2 : Int) (a0_3 : Int) (a0_4 : Int) (a0_5 : Int) (a0_6 : Int) (a0_7 : ByteArray) (a0_8 : Bool) (a0_9 : Int) (a0_10 : Int) (r : ByteArray) (w : World) (h : weighbridgelaw10_Make_frame.f a0_0 a0_1 a0_2 a0_3 a0_4 a0_5 a0_6 a0_7 a0_8 a0_9 a0_10 = some r) :
  Calls Tryz.prog 6 #[.agg #[.int .u8 a0_0, .int .u32 a0_1, .int .u32 a0_2, .int .u16 a0_3, .int .u16 a0_4, .int .u8 a0_5, .int .u8 a0_6, .string a0_7, .bool a0_8, .int .u32 a0_9, .int .u32 a0_10]] w fun e w' => e = .returned (.string r) ∧ Below w.heap.size w w' := by
 obtain ⟨k, hk⟩ := weighbridgelaw10_Make_frame_ev a0_0 a0_1 a0_2 a0_3 a0_4 a0_5 a0_6 a0_7 a0_8 a0_9 a0_10 _ h
 exact weighbridgelaw10_Make_frame_p.calls k a0_0 a0_1 a0_2 a0_3 a0_4 a0_5 a0_6 a0_7 a0_8 a0_9 a0_10 r w hk

/-! ### weighbridgelaw10_examples_p: function 4 -/
def weighbridgelaw10_examples_p.f  : Option (Bool) := (weighbridgelaw10_Make_frame.f 0 1 2 3 4 0 9 (⟨#[]⟩ : ByteArray) false 0 0).bind fun t294 => ((patch_Plain.f t294 5 6 7 8).bind fun bt295 => ((patch_Plain.f (⟨#[]⟩ : ByteArray) 0 0 0 0).bind fun bt297 => ((weighbridgelaw10_Make_frame.f 0 1 2 3 4 0 1 (⟨#[]⟩ : ByteArray) false 0 0).bind fun t299 => ((patch_Plain.f t299 0 0 0 0).bind fun bt300 => ((weighbridgelaw10_Make_frame.f 0 5 6 7 8 0 8 (⟨#[]⟩ : ByteArray) false 0 0).bind fun t302 => (if bt295.1.toList = t302.toList then (if bt295.2 = 0 then (if bt297.2 = 2 then (some (bt300.2 == 11)) else (some false)) else (some false)) else (some false)))))))
set_option maxHeartbeats 8000000 in
set_option maxRecDepth 100000 in
theorem weighbridgelaw10_examples_p.calls  (r : Bool) (w : World) (h : weighbridgelaw10_examples_p.f  = some r) (hr_ : r = true) :
  Calls Tryz.prog 4 #[] w fun e w' => e = .returned (.bool r) ∧ Below w.heap.size w w' := by
 have hu25 := Tryz.underlying25
 have hu27 := Tryz.underlying27
 have HB := AA (Below.refl w.heap.size w)
 have H : ((weighbridgelaw10_Make_frame.f 0 1 2 3 4 0 9 (⟨#[]⟩ : ByteArray) false 0 0).bind fun t294 => ((patch_Plain.f t294 5 6 7 8).bind fun bt295 => ((patch_Plain.f (⟨#[]⟩ : ByteArray) 0 0 0 0).bind fun bt297 => ((weighbridgelaw10_Make_frame.f 0 1 2 3 4 0 1 (⟨#[]⟩ : ByteArray) false 0 0).bind fun t299 => ((patch_Plain.f t299 0 0 0 0).bind fun bt300 => ((weighbridgelaw10_Make_frame.f 0 5 6 7 8 0 8 (⟨#[]⟩ : ByteArray) false 0 0).bind fun t302 => (if bt295.1.toList = t302.toList then (if bt295.2 = 0 then (if bt297.2 = 2 then (some (bt300.2 == 11)) else (some false)) else (some false)) else (some false)))))))) = some r := h
 clear h
 replace H := OB H
 obtain ⟨t294, A1, H⟩ := H
 (try set_option simprocs false in dsimp only at H)
 replace H := OB H
 obtain ⟨⟨t295, t296⟩, A2, H⟩ := H
 (try set_option simprocs false in dsimp only at H)
 replace H := OB H
 obtain ⟨⟨t297, t298⟩, A3, H⟩ := H
 (try set_option simprocs false in dsimp only at H)
 replace H := OB H
 obtain ⟨t299, A4, H⟩ := H
 (try set_option simprocs false in dsimp only at H)
 replace H := OB H
 obtain ⟨⟨t300, t301⟩, A5, H⟩ := H
 (try set_option simprocs false in dsimp only at H)
 replace H := OB H
 obtain ⟨t302, A6, H⟩ := H
 (try set_option simprocs false in dsimp only at H)
 by_cases c7 : t295.toList = t302.toList
 rotate_left
 ·rw [if_neg c7] at H
  have c7b0 : (t295.toList == t302.toList) = false := beq_eq_false_iff_ne.mpr c7
  have c7b1 : (t295.toList != t302.toList) = true := bne_iff_ne.mpr c7
  exact absurd ((Option.some.inj H).trans hr_) (by decide)
 rw [if_pos c7] at H
 have c7b0 : (t295.toList == t302.toList) = true := beq_iff_eq.mpr c7
 have c7b1 : (t295.toList != t302.toList) = false := bne_eq_false_iff_eq.mpr c7
 clear c7
 by_cases c8 : t296 = 0
 ·rw [if_pos c8] at H
  have c8b0 := BT c8
  have c8b1 := NF c8
  clear c8
  by_cases c9 : t298 = 2
  ·rw [if_pos c9] at H
   have c9b0 := BT c9
   have c9b1 := NF c9
   clear c9
   obtain rfl := Option.some.inj H
   go_enter Tryz.func4, Tryz.ntmps4
   go_wp2_with (first | ((with_reducible refine gate_dst (N := 1) rfl ?_); refine bx 1 25 (rr11 0 0 0 0 0 0 0 (⟨#[]⟩ : ByteArray) false 0 0) ?_; intro gb292 hg w10 hbox hb; have BK292 := AA hbox; have GW292 := GS hg HB; have GE292 := GS hg HB; replace HB := BS HB hb; clear hb hbox hg; have hz11 := blk11 BK292.out) | ((with_reducible refine gate_dst (N := 2) rfl ?_); refine bx 2 25 (rr11 0 0 0 0 0 0 0 (⟨#[]⟩ : ByteArray) false 0 0) ?_; intro gb293 hg w12 hbox hb; have BK293 := AA hbox; have GW293 := GS hg HB; have GE293 := GS hg HB; replace HB := BS HB hb; have NB292_293 := AA (by rw [hg]; exact Nat.ne_of_lt (blk_lt (g := gb292) (o := .cells (rr11 0 1 2 3 4 0 9 (⟨#[]⟩ : ByteArray) false 0 0) 25 (0, 0)) (BE BK292)) : gb292 ≠ gb293); have NB293_292 := AA (by rw [hg]; exact Nat.ne_of_gt (blk_lt (g := gb292) (o := .cells (rr11 0 1 2 3 4 0 9 (⟨#[]⟩ : ByteArray) false 0 0) 25 (0, 0)) (BE BK292)) : gb293 ≠ gb292); replace BK292 := AA (blk_below (g := gb292) (o := .cells (rr11 0 1 2 3 4 0 9 (⟨#[]⟩ : ByteArray) false 0 0) 25 (0, 0)) (BE BK292) hb); clear hb hbox hg; have hnb13 := NB293_292.out; have hnc13 := NB292_293.out; have hz14 := blk11 BK293.out; have hz15 := blk11 BK292.out) | ((with_reducible refine gkx 6 rfl ?_); refine gL 13 Tryz.func6 rfl (weighbridgelaw10_Make_frame.calls 0 1 2 3 4 0 9 (⟨#[]⟩ : ByteArray) false 0 0 t294 _ A1.out) ?_; rintro w16 hb; (try clear A1); replace BK292 := AA (blk_below (g := gb292) (o := .cells (rr11 0 1 2 3 4 0 9 (⟨#[]⟩ : ByteArray) false 0 0) 25 (0, 0)) (BE BK292) hb); replace BK293 := AA (blk_below (g := gb293) (o := .cells (rr11 0 5 6 7 8 0 8 (⟨#[]⟩ : ByteArray) false 0 0) 25 (0, 0)) (BE BK293) hb); replace HB := BS HB hb; (try clear hb)) | ((with_reducible refine gkx 10 rfl ?_); refine gL 15 Tryz.func10 rfl (patch_Plain.calls t294 5 6 7 8 t295 t296 _ A2.out) ?_; rintro w17 hb; (try clear A2); replace BK292 := AA (blk_below (g := gb292) (o := .cells (rr11 0 1 2 3 4 0 9 (⟨#[]⟩ : ByteArray) false 0 0) 25 (0, 0)) (BD BK292) hb); replace BK293 := AA (blk_below (g := gb293) (o := .cells (rr11 0 5 6 7 8 0 8 (⟨#[]⟩ : ByteArray) false 0 0) 25 (0, 0)) (BD BK293) hb); replace HB := BS HB hb; (try clear hb)) | ((with_reducible refine gkx 10 rfl ?_); refine gL 20 Tryz.func10 rfl (patch_Plain.calls (⟨#[]⟩ : ByteArray) 0 0 0 0 t297 t298 _ A3.out) ?_; rintro w18 hb; (try clear A3); replace BK292 := AA (blk_below (g := gb292) (o := .cells (rr11 0 1 2 3 4 0 9 (⟨#[]⟩ : ByteArray) false 0 0) 25 (0, 0)) (BD BK292) hb); replace BK293 := AA (blk_below (g := gb293) (o := .cells (rr11 0 5 6 7 8 0 8 (⟨#[]⟩ : ByteArray) false 0 0) 25 (0, 0)) (BD BK293) hb); replace HB := BS HB hb; (try clear hb); have hz19 := blk11 BK292.out) | ((with_reducible refine gkx 6 rfl ?_); refine gL 26 Tryz.func6 rfl (weighbridgelaw10_Make_frame.calls 0 1 2 3 4 0 1 (⟨#[]⟩ : ByteArray) false 0 0 t299 _ A4.out) ?_; rintro w20 hb; (try clear A4); replace BK292 := AA (blk_below (g := gb292) (o := .cells (rr11 0 1 2 3 4 0 1 (⟨#[]⟩ : ByteArray) false 0 0) 25 (0, 0)) (BE BK292) hb); replace BK293 := AA (blk_below (g := gb293) (o := .cells (rr11 0 5 6 7 8 0 8 (⟨#[]⟩ : ByteArray) false 0 0) 25 (0, 0)) (BE BK293) hb); replace HB := BS HB hb; (try clear hb)) | ((with_reducible refine gkx 10 rfl ?_); refine gL 28 Tryz.func10 rfl (patch_Plain.calls t299 0 0 0 0 t300 t301 _ A5.out) ?_; rintro w21 hb; (try clear A5); replace BK292 := AA (blk_below (g := gb292) (o := .cells (rr11 0 1 2 3 4 0 1 (⟨#[]⟩ : ByteArray) false 0 0) 25 (0, 0)) (BD BK292) hb); replace BK293 := AA (blk_below (g := gb293) (o := .cells (rr11 0 5 6 7 8 0 8 (⟨#[]⟩ : ByteArray) false 0 0) 25 (0, 0)) (BD BK293) hb); replace HB := BS HB hb; (try clear hb); have hz22 := blk11 BK293.out) | ((with_reducible refine gkx 6 rfl ?_); refine gL 33 Tryz.func6 rfl (weighbridgelaw10_Make_frame.calls 0 5 6 7 8 0 8 (⟨#[]⟩ : ByteArray) false 0 0 t302 _ A6.out) ?_; rintro w23 hb; (try clear A6); replace BK292 := AA (blk_below (g := gb292) (o := .cells (rr11 0 1 2 3 4 0 1 (⟨#[]⟩ : ByteArray) false 0 0) 25 (0, 0)) (BD BK292) hb); replace BK293 := AA (blk_below (g := gb293) (o := .cells (rr11 0 5 6 7 8 0 8 (⟨#[]⟩ : ByteArray) false 0 0) 25 (0, 0)) (BD BK293) hb); replace HB := BS HB hb; (try clear hb)))
   go_ret
   exact ⟨RT, BW HB⟩
  rw [if_neg c9] at H
  have c9b0 := BF c9
  have c9b1 := NT c9
  exact absurd ((Option.some.inj H).trans hr_) (by decide)
 rw [if_neg c8] at H
 have c8b0 := BF c8
 have c8b1 := NT c8
 exact absurd ((Option.some.inj H).trans hr_) (by decide)

def weighbridgelaw10_examples.f : Option Bool := some true
theorem weighbridgelaw10_examples.calls (r : Bool) (w : World) (h : weighbridgelaw10_examples.f = some r) :
  Calls Tryz.prog 4 #[] w fun e w' => e = .returned (.bool r) ∧ Below w.heap.size w w' := by
 unfold weighbridgelaw10_examples.f at h
 obtain rfl := Option.some.inj h
 exact weighbridgelaw10_examples_p.calls true w (by kernel_rfl) rfl

/-! ### weighbridgelaw10_broken: function 5 -/
def weighbridgelaw10_broken.f (a0 : ByteArray) (a1 : Int) (a2 : Int) : Option (ByteArray) := if a0.toList = ([] : List UInt8) then (some a0) else (if a1 < 0 then (if a0.size ≤ 281474976710656 then ((some (numsOf a0 : List Int)).bind fun y303 => (if (y303.length : Int) = 0 then (none) else (if 0 ≤ (Int.tmod (wrap64 (-(wrap64 (a1 + 1)))) (y303.length : Int)) then (if (Int.tmod (wrap64 (-(wrap64 (a1 + 1)))) (y303.length : Int)) < (y303.length : Int) then (some (strOfNums (y303.set ((Int.tmod (wrap64 (-(wrap64 (a1 + 1)))) (y303.length : Int)) : Int).toNat (Go.bits .xor .u8 (rd y303 (Int.tmod (wrap64 (-(wrap64 (a1 + 1)))) (y303.length : Int))) a2)))) else (none)) else (none)))) else (none)) else (if a0.size ≤ 281474976710656 then ((some (numsOf a0 : List Int)).bind fun y308 => (if (y308.length : Int) = 0 then (none) else (if 0 ≤ (Int.tmod a1 (y308.length : Int)) then (if (Int.tmod a1 (y308.length : Int)) < (y308.length : Int) then (some (strOfNums (y308.set ((Int.tmod a1 (y308.length : Int)) : Int).toNat (Go.bits .xor .u8 (rd y308 (Int.tmod a1 (y308.length : Int))) a2)))) else (none)) else (none)))) else (none)))
def weighbridgelaw10_broken.T6 : Bool × List (List Nat × List Nat) := (true, [([], []), ([], []), ([], []), ([2], [2]), ([1, 3], [1, 3]), ([], []), ([], []), ([], []), ([7], [7]), ([6, 8], [6, 8]), ([5, 9], [5, 9]), ([10], [10]), ([], []), ([11, 12], [11, 12]), ([0, 4, 0, 1, 2, 3, 4, 5, 6, 7, 8, 9, 10, 11, 12, 13], [0, 4]), ([14, 13, 0, 1, 2, 3, 4, 5, 6, 7, 8, 9, 10, 11, 12, 13], [13, 14])])
def weighbridgelaw10_broken.B6 : List Nat := [0, 0, 0, 4, 14, 0, 0, 0, 128, 448, 992, 2016, 0, 8160, 16383, 32767]
theorem weighbridgelaw10_broken.tab6 : rtab .any (opsOf Tryz.f5 6) = weighbridgelaw10_broken.T6 := by kernel_rfl
theorem weighbridgelaw10_broken.bits6 : waitsOk weighbridgelaw10_broken.T6.2 weighbridgelaw10_broken.B6 = true := by kernel_rfl
set_option maxHeartbeats 8000000 in
set_option maxRecDepth 100000 in
theorem weighbridgelaw10_broken.calls (a0 : ByteArray) (a1 : Int) (a2 : Int) (r : ByteArray) (w : World) (h : weighbridgelaw10_broken.f a0 a1 a2 = some r) :
  Calls Tryz.prog 5 #[.string a0, .int .i64 a1, .int .u8 a2] w fun e w' => e = .returned (.string r) ∧ Below w.heap.size w w' := by
 have HB := AA (Below.refl w.heap.size w)
 have H := h
 unfold weighbridgelaw10_broken.f at H
 clear h
 by_cases c4 : a0.toList = ([] : List UInt8)
 ·rw [if_pos c4] at H
  have c4b0 : (a0.toList == ([] : List UInt8)) = true := beq_iff_eq.mpr c4
  have c4b1 : (a0.toList != ([] : List UInt8)) = false := bne_eq_false_iff_eq.mpr c4
  clear c4
  obtain rfl := Option.some.inj H
  go_enter Tryz.func5, Tryz.ntmps5
  go_wp2
  go_ret
  exact ⟨RT, BW HB⟩
 rw [if_neg c4] at H
 have c4b0 : (a0.toList == ([] : List UInt8)) = false := beq_eq_false_iff_ne.mpr c4
 have c4b1 : (a0.toList != ([] : List UInt8)) = true := bne_iff_ne.mpr c4
 by_cases c5 : a1 < 0
 ·rw [if_pos c5] at H
  have c5b0 := decide_eq_true c5
  clear c5
  replace H := IU H
  obtain ⟨c6b0, c6b1, H⟩ := H
  obtain ⟨y303, hy303⟩ : ∃ y_ : List Int, y_ = (numsOf a0) := ⟨_, rfl⟩
  replace H : (if (y303.length : Int) = 0 then (none) else (if 0 ≤ (Int.tmod (wrap64 (-(wrap64 (a1 + 1)))) (y303.length : Int)) then (if (Int.tmod (wrap64 (-(wrap64 (a1 + 1)))) (y303.length : Int)) < (y303.length : Int) then (some (strOfNums (y303.set ((Int.tmod (wrap64 (-(wrap64 (a1 + 1)))) (y303.length : Int)) : Int).toNat (Go.bits .xor .u8 (rd y303 (Int.tmod (wrap64 (-(wrap64 (a1 + 1)))) (y303.length : Int))) a2)))) else (none)) else (none))) = some r := by first | (rw [hy303]; with_reducible exact H) | (have H2_ := (Option.bind_some _ _).symm.trans H; rw [hy303]; with_reducible exact H2_) | (have H2_ := (Option.bind_some _ _).symm.trans H; with_reducible exact H2_) | with_reducible exact H | (rw [hy303]; exact H) | exact H
  have Ny303 := AA hy303
  clear hy303
  by_cases c7 : (y303.length : Int) = 0
  ·rw [if_pos c7] at H
   exact absurd H (by simp)
  rw [if_neg c7] at H
  have c7b0 := BF c7
  have c7b1 := NT c7
  have c7b2 : ¬ (y303 = []) := fun h_ => c7 (by rw [h_]; rfl)
  obtain ⟨ji8, hji8⟩ : ∃ j_ : Int, (Int.tmod (wrap64 (-(wrap64 (a1 + 1)))) (y303.length : Int)) = j_ := ⟨_, rfl⟩
  replace H : (if 0 ≤ (ji8) then (if (ji8) < (y303.length : Int) then (some (strOfNums (y303.set ((ji8) : Int).toNat (Go.bits .xor .u8 (rd y303 (ji8)) a2)))) else (none)) else (none)) = some r := by first | (rw [hji8] at H; exact H) | (simp only [hji8] at H ⊢; exact H)
  replace H := IT H
  obtain ⟨c9, H⟩ := H
  have c9b0 := decide_eq_true c9
  clear c9
  replace H := IT H
  obtain ⟨c10, H⟩ := H
  have c10b0 := decide_eq_true c10
  clear c10
  obtain ⟨y307, hy307⟩ : ∃ y_ : List Int, y_ = (y303.set ((ji8) : Int).toNat (Go.bits .xor .u8 (rd y303 (ji8)) a2)) := ⟨_, rfl⟩
  replace H : (some (strOfNums y307)) = some r := by first | (rw [hy307]; with_reducible exact H) | (have H2_ := (Option.bind_some _ _).symm.trans H; rw [hy307]; with_reducible exact H2_) | (have H2_ := (Option.bind_some _ _).symm.trans H; with_reducible exact H2_) | with_reducible exact H | (rw [hy307]; exact H) | exact H
  have Ny307 := AA hy307
  clear hy307
  obtain rfl := Option.some.inj H
  go_enter Tryz.func5, Tryz.ntmps5
  try go_wp2_with (first | ((with_reducible refine gate_dst (N := 17) rfl ?_); refine Kb.Q_conv (Kd.int .u8) 5 rfl (N := 17) rfl 9 40 _ rfl a0 rfl Tryz.underlying9 Tryz.underlying40 Tryz.underlying5 (ok := fun _ => True) trivial (DA) ?_; intro v304 w12 ho13 hb hg_ hnew_; clear hg_ hnew_; (first | rw [← Ny303.out] at ho13 | (simp only [Int.reduceToNat] at ho13; rw [← Ny303.out] at ho13)); have HO305 := AA (Kb.Q_lower ho13 (below_size (BW HB))); replace HB := BS HB hb; clear hb ho13))
  replace HO305 := AA (Kb.Q_drew HO305.out)
  replace HB := AA (below_drew1 HB.out)
  obtain ⟨Ao15, co15, eo15, _⟩ := Kb.Q_slice HO305.out
  (first | subst eo15 | (injection eo15 with f1_ f2_ f3_; have f4_ := f1_.symm; have f5_ := f3_.symm; clear f1_ f2_ f3_; subst f4_; subst f5_))
  have p306 : 0 ≤ ((ji8) : Int) := DA
  have q306 : (ji8) < (y303.length : Int) := DA
  obtain ⟨ad306, e306, hx306_0⟩ := Kd.at_int (Kb.Q_reads' HO305.out).2.2 (ji8) p306 q306
  cases e306
  replace p306 := eq_true p306
  replace q306 := eq_true q306
  have p11 : 0 ≤ ((ji8) : Int) := DA
  have q11 : ((ji8) : Int) < ((y303.length : Int) : Int) := DA
  obtain ⟨go11, co11, eo11, gb11, gl11, cl11, HG11⟩ := Kb.Q_form HO305.out (by omega)
  (first | cases eo11 | (injection eo11 with ea_ en_ ec_; (first | subst ea_ | (injection ea_ with ea_; subst ea_)); subst ec_; clear en_))
  have GB11 := AA gb11
  have GG11 := AA HG11
  clear gb11 gl11 HG11
  (first | simp only [add_at, Nat.zero_add] at hx306_0 | skip)
  obtain ⟨hx11_0, hf11_0⟩ := Kb.Q_cell 0 HO305.out ((ji8) : Int) p11 q11
  replace p11 := eq_true p11
  replace q11 := eq_true q11
  have HP16 := (Kb.Q_putg HO305.out ((ji8) : Int) (DA) (by have h_ : ((ji8) : Int) < ((y303.length : Int) : Int) := DA; first | exact h_ | (have e_ := (Kb.Q_reads' HO305.out).1; omega) | simpa using h_) (Go.bits .xor .u8 (rd y303 (ji8)) a2)).1
  rw [← Ny307.out] at HP16
  have HQ16 := AA HP16
  clear HP16
  refine start_ (n := 16) (S := fun w' => w'.cell? ⟨go11, ((ji8)).toNat, none⟩ = some (.int .u8 (rd y303 (ji8)))) (ds := [15]) (bm 16 0x0) (by kernel_rfl) rfl rfl (hx306_0) (fun hHeld => ?_); refine with_tabW weighbridgelaw10_broken.tab6 weighbridgelaw10_broken.bits6 (fun HT_ HW_ => ?_)
  generalize w12.drew = w14 at HO305 HB GG11 HQ16 hf11_0 hx11_0 hx306_0 hHeld ⊢
  refine pu 0 18 (bm 16 0x1) HT_ ?_
  refine pu 1 19 (bm 16 0x3) HT_ ?_
  refine pu 2 20 (bm 16 0x7) HT_ ?_
  refine pu 3 21 (bm 16 0xf) HT_ ?_
  refine pu 4 22 (bm 16 0x1f) HT_ ?_
  refine pu 5 23 (bm 16 0x3f) HT_ ?_
  refine pu 6 24 (bm 16 0x7f) HT_ ?_
  refine pu 7 25 (bm 16 0xff) HT_ ?_
  refine pu 8 26 (bm 16 0x1ff) HT_ ?_
  refine pu 9 27 (bm 16 0x3ff) HT_ ?_
  refine pu 10 28 (bm 16 0x7ff) HT_ ?_
  refine pu 12 30 (bm 16 0x17ff) HT_ ?_
  refine tw1 11 29 (bm 16 0x1fff) HT_ HW_ hHeld ?_
  refine pu 13 31 (bm 16 0x3fff) HT_ ?_
  refine pu 14 32 (bm 16 0x7fff) HT_ ?_
  refine last_ (i := 15) (N := none) (bm 16 0xffff) rfl rfl (one_of HT_.out (by kernel_rfl)) (by decide) (fun K hK => ?_)
  refine skip_ (w1 := ?_) (by rfl) rfl ?_ ?_
  rotate_left
  ·go_simp
   rfl
  refine hK.out _ _ ?_
  clear hK K
  refine done_ (done_of HT_.out (by kernel_rfl)) ?_
  have hcv17 := Kb.Q_string (P := Tryz.prog) Tryz.underlying40 Tryz.underlying5 Tryz.underlying9 (by exact HQ16.out)
  try go_wp2
  go_ret
  exact ⟨by first | rfl | (simp [errW_none, errW_some] <;> rfl) | (simp only [← hji8]; first | rfl | (simp [errW_none, errW_some] <;> rfl)) | (simp [*, errW_none, errW_some] <;> rfl), BW HB⟩
 rw [if_neg c5] at H
 have c5b0 := decide_eq_false c5
 clear c5
 replace H := IU H
 obtain ⟨c18b0, c18b1, H⟩ := H
 obtain ⟨y308, hy308⟩ : ∃ y_ : List Int, y_ = (numsOf a0) := ⟨_, rfl⟩
 replace H : (if (y308.length : Int) = 0 then (none) else (if 0 ≤ (Int.tmod a1 (y308.length : Int)) then (if (Int.tmod a1 (y308.length : Int)) < (y308.length : Int) then (some (strOfNums (y308.set ((Int.tmod a1 (y308.length : Int)) : Int).toNat (Go.bits .xor .u8 (rd y308 (Int.tmod a1 (y308.length : Int))) a2)))) else (none)) else (none))) = some r := by first | (rw [hy308]; with_reducible exact H) | (have H2_ := (Option.bind_some _ _).symm.trans H; rw [hy308]; with_reducible exact H2_) | (have H2_ := (Option.bind_some _ _).symm.trans H; with_reducible exact H2_) | with_reducible exact H | (rw [hy308]; exact H) | exact H
 have Ny308 := AA hy308
 clear hy308
 by_cases c19 : (y308.length : Int) = 0
 ·rw [if_pos c19] at H
  exact absurd H (by simp)
 rw [if_neg c19] at H
 have c19b0 := BF c19
 have c19b1 := NT c19
 have c19b2 : ¬ (y308 = []) := fun h_ => c19 (by rw [h_]; rfl)
 obtain ⟨ji20, hji20⟩ : ∃ j_ : Int, (Int.tmod a1 (y308.length : Int)) = j_ := ⟨_, rfl⟩
 replace H : (if 0 ≤ (ji20) then (if (ji20) < (y308.length : Int) then (some (strOfNums (y308.set ((ji20) : Int).toNat (Go.bits .xor .u8 (rd y308 (ji20)) a2)))) else (none)) else (none)) = some r := by first | (rw [hji20] at H; exact H) | (simp only [hji20] at H ⊢; exact H)
 replace H := IT H
 obtain ⟨c21, H⟩ := H
 have c21b0 := decide_eq_true c21
 clear c21
 replace H := IT H
 obtain ⟨c22, H⟩ := H
 have c22b0 := decide_eq_true c22
 clear c22
 obtain ⟨y312, hy312⟩ : ∃ y_ : List Int, y_ = (y308.set ((ji20) : Int).toNat (Go.bits .xor .u8 (rd y308 (ji20)) a2)) := ⟨_, rfl⟩
 replace H : (some (strOfNums y312)) = some r := by first | (rw [hy312]; with_reducible exact H) | (have H2_ := (Option.bind_some _ _).symm.trans H; rw [hy312]; with_reducible exact H2_) | (have H2_ := (Option.bind_some _ _).symm.trans H; with_reducible exact H2_) | with_reducible exact H | (rw [hy312]; exact H) | exact H
 have Ny312 := AA hy312
 clear hy312
 obtain rfl := Option.some.inj H
 go_enter Tryz.func5, Tryz.ntmps5
 try go_wp2_with (first | ((with_reducible refine gate_dst (N := 17) rfl ?_); refine Kb.Q_conv (Kd.int .u8) 5 rfl (N := 17) rfl 9 40 _ rfl a0 rfl Tryz.underlying9 Tryz.underlying40 Tryz.underlying5 (ok := fun _ => True) trivial (DA) ?_; intro v309 w24 ho25 hb hg_ hnew_; clear hg_ hnew_; (first | rw [← Ny308.out] at ho25 | (simp only [Int.reduceToNat] at ho25; rw [← Ny308.out] at ho25)); have HO310 := AA (Kb.Q_lower ho25 (below_size (BW HB))); replace HB := BS HB hb; clear hb ho25))
 replace HO310 := AA (Kb.Q_drew HO310.out)
 replace HB := AA (below_drew1 HB.out)
 obtain ⟨Ao27, co27, eo27, _⟩ := Kb.Q_slice HO310.out
 (first | subst eo27 | (injection eo27 with f1_ f2_ f3_; have f4_ := f1_.symm; have f5_ := f3_.symm; clear f1_ f2_ f3_; subst f4_; subst f5_))
 have p311 : 0 ≤ ((ji20) : Int) := DA
 have q311 : (ji20) < (y308.length : Int) := DA
 obtain ⟨ad311, e311, hx311_0⟩ := Kd.at_int (Kb.Q_reads' HO310.out).2.2 (ji20) p311 q311
 cases e311
 replace p311 := eq_true p311
 replace q311 := eq_true q311
 have p23 : 0 ≤ ((ji20) : Int) := DA
 have q23 : ((ji20) : Int) < ((y308.length : Int) : Int) := DA
 obtain ⟨go23, co23, eo23, gb23, gl23, cl23, HG23⟩ := Kb.Q_form HO310.out (by omega)
 (first | cases eo23 | (injection eo23 with ea_ en_ ec_; (first | subst ea_ | (injection ea_ with ea_; subst ea_)); subst ec_; clear en_))
 have GB23 := AA gb23
 have GG23 := AA HG23
 clear gb23 gl23 HG23
 (first | simp only [add_at, Nat.zero_add] at hx311_0 | skip)
 obtain ⟨hx23_0, hf23_0⟩ := Kb.Q_cell 0 HO310.out ((ji20) : Int) p23 q23
 replace p23 := eq_true p23
 replace q23 := eq_true q23
 have HP28 := (Kb.Q_putg HO310.out ((ji20) : Int) (DA) (by have h_ : ((ji20) : Int) < ((y308.length : Int) : Int) := DA; first | exact h_ | (have e_ := (Kb.Q_reads' HO310.out).1; omega) | simpa using h_) (Go.bits .xor .u8 (rd y308 (ji20)) a2)).1
 rw [← Ny312.out] at HP28
 have HQ28 := AA HP28
 clear HP28
 refine start_ (n := 16) (S := fun w' => w'.cell? ⟨go23, ((ji20)).toNat, none⟩ = some (.int .u8 (rd y308 (ji20)))) (ds := [15]) (bm 16 0x0) (by kernel_rfl) rfl rfl (hx311_0) (fun hHeld => ?_); refine with_tabW weighbridgelaw10_broken.tab6 weighbridgelaw10_broken.bits6 (fun HT_ HW_ => ?_)
 generalize w24.drew = w26 at HO310 HB GG23 HQ28 hf23_0 hx23_0 hx311_0 hHeld ⊢
 refine pu 0 18 (bm 16 0x1) HT_ ?_
 refine pu 1 19 (bm 16 0x3) HT_ ?_
 refine pu 2 20 (bm 16 0x7) HT_ ?_
 refine pu 3 21 (bm 16 0xf) HT_ ?_
 refine pu 4 22 (bm 16 0x1f) HT_ ?_
 refine pu 5 23 (bm 16 0x3f) HT_ ?_
 refine pu 6 24 (bm 16 0x7f) HT_ ?_
 refine pu 7 25 (bm 16 0xff) HT_ ?_
 refine pu 8 26 (bm 16 0x1ff) HT_ ?_
 refine pu 9 27 (bm 16 0x3ff) HT_ ?_
 refine pu 10 28 (bm 16 0x7ff) HT_ ?_
 refine pu 12 30 (bm 16 0x17ff) HT_ ?_
 refine tw1 11 29 (bm 16 0x1fff) HT_ HW_ hHeld ?_
 refine pu 13 31 (bm 16 0x3fff) HT_ ?_
 refine pu 14 32 (bm 16 0x7fff) HT_ ?_
 refine last_ (i := 15) (N := none) (bm 16 0xffff) rfl rfl (one_of HT_.out (by kernel_rfl)) (by decide) (fun K hK => ?_)
 refine skip_ (w1 := ?_) (by rfl) rfl ?_ ?_
 rotate_left
 ·go_simp
  rfl
 refine hK.out _ _ ?_
 clear hK K
 refine done_ (done_of HT_.out (by kernel_rfl)) ?_
 have hcv29 := Kb.Q_string (P := Tryz.prog) Tryz.underlying40 Tryz.underlying5 Tryz.underlying9 (by exact HQ28.out)
 try go_wp2
 go_ret
 exact ⟨by first | rfl | (simp [errW_none, errW_some] <;> rfl) | (simp only [← hji20]; first | rfl | (simp [errW_none, errW_some] <;> rfl)) | (simp [*, errW_none, errW_some] <;> rfl), BW HB⟩

/-! ### weighbridgelaw10_ref: function 9 -/
def weighbridgelaw10_ref.f (a0_0 : Int) (a0_1 : Int) (a0_2 : Int) (a0_3 : Int) : Option (Int × Int × Int × Int) := some (a0_0, a0_1, a0_2, a0_3)
set_option maxHeartbeats 8000000 in
set_option maxRecDepth 100000 in
theorem weighbridgelaw10_ref.calls (a0_0 : Int) (a0_1 : Int) (a0_2 : Int) (a0_3 : Int) (r1 : Int) (r2 : Int) (r3 : Int) (r4 : Int) (w : World) (h : weighbridgelaw10_ref.f a0_0 a0_1 a0_2 a0_3 = some (r1, r2, r3, r4)) :
  Calls Tryz.prog 9 #[.agg #[.int .u32 a0_0, .int .u32 a0_1, .int .i64 a0_2, .int .i64 a0_3]] w fun e w' => e = .returned (.agg #[.int .u32 r1, .int .u32 r2, .int .i64 r3, .int .i64 r4]) ∧ Below w.heap.size w w' := by
 have hu27 := Tryz.underlying27
 have hu36 := Tryz.underlying36
 have HB := AA (Below.refl w.heap.size w)
 have H : (some (a0_0, a0_1, a0_2, a0_3)) = some (r1, r2, r3, r4) := h
 clear h
 simp only [Option.some.injEq, Prod.mk.injEq] at H
 obtain ⟨rfl, rfl, rfl, rfl⟩ := H
 go_enter Tryz.func9, Tryz.ntmps9
 go_wp2_with (first | ((with_reducible refine gate_dst (N := 1) rfl ?_); refine bx 1 27 #[.int .u32 a0_0, .int .u32 a0_1, .int .i64 a0_2, .int .i64 a0_3] ?_; intro gb502 hg w2 hbox hb; have BK502 := AA hbox; have GW502 := GS hg HB; have GE502 := GS hg HB; replace HB := BS HB hb; clear hb hbox hg) | ((with_reducible refine gate_dst (N := 2) rfl ?_); refine bx 2 36 #[.int .u32 0, .int .u32 0, .int .i64 0, .int .i64 0] ?_; intro gb503 hg w3 hbox hb; have BK503 := AA hbox; have GW503 := GS hg HB; have GE503 := GS hg HB; replace HB := BS HB hb; have NB502_503 := AA (by rw [hg]; exact Nat.ne_of_lt (blk_lt (g := gb502) (o := .cells #[.int .u32 a0_0, .int .u32 a0_1, .int .i64 a0_2, .int .i64 a0_3] 27 (0, 0)) (BD BK502)) : gb502 ≠ gb503); have NB503_502 := AA (by rw [hg]; exact Nat.ne_of_gt (blk_lt (g := gb502) (o := .cells #[.int .u32 a0_0, .int .u32 a0_1, .int .i64 a0_2, .int .i64 a0_3] 27 (0, 0)) (BD BK502)) : gb503 ≠ gb502); replace BK502 := AA (blk_below (g := gb502) (o := .cells #[.int .u32 a0_0, .int .u32 a0_1, .int .i64 a0_2, .int .i64 a0_3] 27 (0, 0)) (BD BK502) hb); clear hb hbox hg; have hnb4 := NB502_503.out; have hnc4 := NB503_502.out; have hz5 := blk4 BK502.out; have hz6 := blk4 BK503.out))
 refine bodyPost_ret (results_cell_row rfl _ _ gb503 36 #[.int .u32 a0_0, .int .u32 a0_1, .int .i64 a0_2, .int .i64 a0_3] (0, 0) _ rfl (BE BK503) Tryz.underlying36 rfl (by kernel_rfl)) rfl ?_
 exact ⟨RT, BW HB⟩

end Go.Proofs.YtfnjohklmpiboaaGreat.Pr
