-- trimmed by trims.py
-- Written by a program of the session (wip/tools) out of the translation, over the kit's print; with pieces of the session's own.
import Derived.Test.YtfnjohklmpiboaaPr0
import Derived.Test.YtfnjohklmpiboaaPr2
import Derived.Test.YtfnjohklmpiboaaPr6
import Derived.Test.YtfnjohklmpiboaaPr7
import Derived.Test.YtfnjohklmpiboaaPr8
import Derived.Test.YtfnjohklmpiboaaPr10
import Derived.Test.YtfnjohklmpiboaaPr19
namespace Go.Proofs.Ytfnjohklmpiboaa.Pr
open Go.RowKit Go.Proofs.YtfnjohklmpiboaaW.PrintWords Go.Proofs.YtfnjohklmpiboaaW.PrintLast Go.Proofs.YtfnjohklmpiboaaW.PrintMore
attribute [local go_sem] max2_int min2_int max_two min_two max_three min_three max_four min_four   -- for this text's walks alone
set_option linter.unusedVariables false
set_option linter.unusedSimpArgs false
open Go.Proofs.Ytfnjohklmpiboaa.Sp
/-! ### weighbridgelaw10_segment_p: function 18 -/
def weighbridgelaw10_segment_p.f (a0_0 : Int) (a0_1 : Int) (a0_2 : Int) (a0_3 : Int) (a0_4 : Int) (a0_5 : Int) (a0_6 : Int) (a0_7 : ByteArray) (a0_8 : Bool) (a0_9 : Int) (a0_10 : Int) (a1 : Int) : Option (ByteArray) := if 0 ≤ (mn (a0_7.size : Int) 40) then (if (mn (a0_7.size : Int) 40) ≤ (a0_7.size : Int) then (if a1 = 6 then ((weighbridgeref05_Build.f (wrap64 (a0_3)) (wrap64 (a0_4)) 7 0 (wrap64 (Int.tmod a0_5 64)) 9 0 (⟨#[]⟩ : ByteArray) (a0_7.extract 0 ((mn (a0_7.size : Int) 40) : Int).toNat)).bind fun bt192 => ((weighbridgeref08_Fill.f a1 a0_1 a0_2 bt192.1).bind fun bt194 => (some bt194.1))) else ((weighbridgeref06_Build.f (wrap64 (a0_3)) (wrap64 (a0_4)) (a0_7.extract 0 ((mn (a0_7.size : Int) 40) : Int).toNat)).bind fun bt196 => (if a0_8 = true then (some bt196.1) else ((weighbridgeref08_Fill.f a1 a0_1 a0_2 bt196.1).bind fun bt198 => (some bt198.1))))) else (none)) else (none)
set_option maxHeartbeats 8000000 in
set_option maxRecDepth 100000 in
theorem weighbridgelaw10_segment_p.calls (a0_0 : Int) (a0_1 : Int) (a0_2 : Int) (a0_3 : Int) (a0_4 : Int) (a0_5 : Int) (a0_6 : Int) (a0_7 : ByteArray) (a0_8 : Bool) (a0_9 : Int) (a0_10 : Int) (a1 : Int) (r : ByteArray) (w : World) (h : weighbridgelaw10_segment_p.f a0_0 a0_1 a0_2 a0_3 a0_4 a0_5 a0_6 a0_7 a0_8 a0_9 a0_10 a1 = some r) :
  Calls Try.prog 18 #[.agg #[.int .u8 a0_0, .int .u32 a0_1, .int .u32 a0_2, .int .u16 a0_3, .int .u16 a0_4, .int .u8 a0_5, .int .u8 a0_6, .string a0_7, .bool a0_8, .int .u32 a0_9, .int .u32 a0_10], .int .i64 a1] w fun e w' => e = .returned (.string r) ∧ Below w.heap.size w w' := by
 have hu25 := Try.underlying25
 have hu90 := Try.underlying90
 have HB := Aside0.mk (Below.refl w.heap.size w)
 have H := h
 unfold weighbridgelaw10_segment_p.f at H
 clear h
 obtain ⟨ji3, hji3⟩ : ∃ j_ : Int, (mn (a0_7.size : Int) 40) = j_ := ⟨_, rfl⟩
 replace H : (if 0 ≤ (ji3) then (if (ji3) ≤ (a0_7.size : Int) then (if a1 = 6 then ((weighbridgeref05_Build.f (wrap64 (a0_3)) (wrap64 (a0_4)) 7 0 (wrap64 (Int.tmod a0_5 64)) 9 0 (⟨#[]⟩ : ByteArray) (a0_7.extract 0 ((ji3) : Int).toNat)).bind fun bt192 => ((weighbridgeref08_Fill.f a1 a0_1 a0_2 bt192.1).bind fun bt194 => (some bt194.1))) else ((weighbridgeref06_Build.f (wrap64 (a0_3)) (wrap64 (a0_4)) (a0_7.extract 0 ((ji3) : Int).toNat)).bind fun bt196 => (if a0_8 = true then (some bt196.1) else ((weighbridgeref08_Fill.f a1 a0_1 a0_2 bt196.1).bind fun bt198 => (some bt198.1))))) else (none)) else (none)) = some r := by first | (rw [hji3] at H; exact H) | (simp only [hji3] at H ⊢; exact H)
 (try (have hji3h : ji3 ≤ 40 := by (rw [← hji3]; unfold mn; (repeat' split) <;> omega)))
 (try (have hji3g : ji3 ≤ 64 := by omega))
 (try (have hji3l : 0 ≤ ji3 := by (rw [← hji3]; unfold mn; (repeat' split) <;> omega)))
 (try (have hji3m : 0 ≤ ji3 := by omega))
 have hji3_ : (if 40 < (a0_7.size : Int) then 40 else (a0_7.size : Int)) = ji3 := hji3
 by_cases c4 : 0 ≤ (ji3)
 rotate_left
 ·rw [if_neg c4] at H
  exact absurd H (by simp)
 rw [if_pos c4] at H
 have c4b0 := eq_true c4
 have c4b1 : decide (0 ≤ (ji3)) = true := decide_eq_true c4
 clear c4
 by_cases c5 : (ji3) ≤ (a0_7.size : Int)
 rotate_left
 ·rw [if_neg c5] at H
  exact absurd H (by simp)
 rw [if_pos c5] at H
 have c5b0 := eq_true c5
 have c5b1 : decide ((ji3) ≤ (a0_7.size : Int)) = true := decide_eq_true c5
 clear c5
 by_cases c6 : a1 = 6
 ·rw [if_pos c6] at H
  have c6b0 : (a1 == 6) = true := beq_iff_eq.mpr c6
  have c6b1 : (a1 != 6) = false := bne_eq_false_iff_eq.mpr c6
  clear c6
  replace H := Option.bind_eq_some_iff.mp H
  obtain ⟨⟨t192, t193⟩, A70, H⟩ := H
  (try set_option simprocs false in dsimp only at H)
  have A7 := Aside0.mk A70
  clear A70
  replace H := Option.bind_eq_some_iff.mp H
  obtain ⟨⟨t194, t195⟩, A80, H⟩ := H
  (try set_option simprocs false in dsimp only at H)
  have A8 := Aside0.mk A80
  clear A80
  obtain rfl := Option.some.inj H
  go_enter Try.func18, Try.ntmps18
  go_wp2_with (first | ((with_reducible refine gate_dst (N := 2) rfl ?_); refine box_event ?hg (N := 2) ?hd (cs := (r11 a0_0 a0_1 a0_2 a0_3 a0_4 a0_5 a0_6 a0_7 a0_8 a0_9 a0_10)) (t := 25) ?hr ?_; (case hd => rfl); (case hg => rfl); (case hr => first | (go_simp; done) | (go_simp; rfl)); intro gb191 hg w9 hbox hb; have n0_ := Aside0.mk (below_step (BW HB) hb); have n1_ := Aside0.mk (hbox); have n2_ := Aside0.mk ((by rw [hg]; exact (below_size (BW HB)) : w.heap.size ≤ gb191)); have n3_ := Aside0.mk ((by rw [hg]; exact (below_size (BW HB)) : w.heap.size ≤ gb191)); clear HB; have HB := n0_; have BK191 := n1_; have GW191 := n2_; have GE191 := n3_; clear n0_ n1_ n2_ n3_; clear hb hbox hg; obtain ⟨hcz10_0, hcz10_1, hcz10_2, hcz10_3, hcz10_4, hcz10_5, hcz10_6, hcz10_7, hcz10_8, hcz10_9, hcz10_10, hfz10_0, hfz10_1, hfz10_2, hfz10_3, hfz10_4, hfz10_5, hfz10_6, hfz10_7, hfz10_8, hfz10_9, hfz10_10⟩ := blk11 BK191.out) | ((with_reducible refine gate_callee (f := 43) rfl ?_); refine goesL_ (some 36) rfl rfl Try.func43 (by kernel_rfl) rfl #[.agg #[.int .i64 (wrap64 (a0_3)), .int .i64 (wrap64 (a0_4)), .int .u32 7, .int .u32 0, .int .i64 (wrap64 (Int.tmod a0_5 64)), .int .i64 9, .int .i64 0, .string (⟨#[]⟩ : ByteArray)], .string (a0_7.extract 0 ((ji3) : Int).toNat)] rfl (by (try simp only [List.map_toArray, List.map_cons, List.map_nil]); first | done | (simp only [hji3]; rfl) | rfl | (simp only [List.length_drop, List.length_take]; rfl)) ?_; (with_reducible refine (weighbridgeref05_Build.calls (wrap64 (a0_3)) (wrap64 (a0_4)) 7 0 (wrap64 (Int.tmod a0_5 64)) 9 0 (⟨#[]⟩ : ByteArray) (a0_7.extract 0 ((ji3) : Int).toNat) t192 t193 _ A7.out).mono ?_); rintro e w11 ⟨rfl, hb⟩; (try clear A7); refine ⟨_, rfl, ?_⟩; have n0_ := Aside0.mk (blkB BK191 hb); have n1_ := Aside0.mk (below_step (BW HB) hb); clear BK191; clear HB; have BK191 := n0_; have HB := n1_; clear n0_ n1_; (try clear hb); obtain ⟨hcz12_0, hcz12_1, hcz12_2, hcz12_3, hcz12_4, hcz12_5, hcz12_6, hcz12_7, hcz12_8, hcz12_9, hcz12_10, hfz12_0, hfz12_1, hfz12_2, hfz12_3, hfz12_4, hfz12_5, hfz12_6, hfz12_7, hfz12_8, hfz12_9, hfz12_10⟩ := blk11 BK191.out) | ((with_reducible refine gate_callee (f := 30) rfl ?_); refine goesL_ (some 46) rfl rfl Try.func30 (by kernel_rfl) rfl #[.int .i64 a1, .int .u32 a0_1, .int .u32 a0_2, .string t192] rfl AG ?_; (with_reducible refine (weighbridgeref08_Fill.calls a1 a0_1 a0_2 t192 t194 t195 _ A8.out).mono ?_); rintro e w13 ⟨rfl, hb⟩; (try clear A8); refine ⟨_, rfl, ?_⟩; have n0_ := Aside0.mk (blkB BK191 hb); have n1_ := Aside0.mk (below_step (BW HB) hb); clear BK191; clear HB; have BK191 := n0_; have HB := n1_; clear n0_ n1_; (try clear hb)))
  go_ret
  exact ⟨by first | rfl | (simp [errW_none, errW_some] <;> rfl) | (simp only [← hji3]; first | rfl | (simp [errW_none, errW_some] <;> rfl)) | (simp [*, errW_none, errW_some] <;> rfl), BW HB⟩
 rw [if_neg c6] at H
 have c6b0 : (a1 == 6) = false := beq_eq_false_iff_ne.mpr c6
 have c6b1 : (a1 != 6) = true := bne_iff_ne.mpr c6
 replace H := Option.bind_eq_some_iff.mp H
 obtain ⟨⟨t196, t197⟩, A140, H⟩ := H
 (try set_option simprocs false in dsimp only at H)
 have A14 := Aside0.mk A140
 clear A140
 by_cases c15 : a0_8 = true
 ·subst c15
  first | rw [if_pos rfl] at H | rw [if_pos trivial] at H
  obtain rfl := Option.some.inj H
  go_enter Try.func18, Try.ntmps18
  go_wp2_with (first | ((with_reducible refine gate_dst (N := 2) rfl ?_); refine box_event ?hg (N := 2) ?hd (cs := (r11 a0_0 a0_1 a0_2 a0_3 a0_4 a0_5 a0_6 a0_7 true a0_9 a0_10)) (t := 25) ?hr ?_; (case hd => rfl); (case hg => rfl); (case hr => first | (go_simp; done) | (go_simp; rfl)); intro gb191 hg w16 hbox hb; have n0_ := Aside0.mk (below_step (BW HB) hb); have n1_ := Aside0.mk (hbox); have n2_ := Aside0.mk ((by rw [hg]; exact (below_size (BW HB)) : w.heap.size ≤ gb191)); have n3_ := Aside0.mk ((by rw [hg]; exact (below_size (BW HB)) : w.heap.size ≤ gb191)); clear HB; have HB := n0_; have BK191 := n1_; have GW191 := n2_; have GE191 := n3_; clear n0_ n1_ n2_ n3_; clear hb hbox hg; obtain ⟨hcz17_0, hcz17_1, hcz17_2, hcz17_3, hcz17_4, hcz17_5, hcz17_6, hcz17_7, hcz17_8, hcz17_9, hcz17_10, hfz17_0, hfz17_1, hfz17_2, hfz17_3, hfz17_4, hfz17_5, hfz17_6, hfz17_7, hfz17_8, hfz17_9, hfz17_10⟩ := blk11 BK191.out) | ((with_reducible refine gate_callee (f := 44) rfl ?_); refine goesL_ (some 58) rfl rfl Try.func44 (by kernel_rfl) rfl #[.int .i64 (wrap64 (a0_3)), .int .i64 (wrap64 (a0_4)), .string (a0_7.extract 0 ((ji3) : Int).toNat)] rfl (by (try simp only [List.map_toArray, List.map_cons, List.map_nil]); first | done | (simp only [hji3]; rfl) | rfl | (simp only [List.length_drop, List.length_take]; rfl)) ?_; (with_reducible refine (weighbridgeref06_Build.calls (wrap64 (a0_3)) (wrap64 (a0_4)) (a0_7.extract 0 ((ji3) : Int).toNat) t196 t197 _ A14.out).mono ?_); rintro e w18 ⟨rfl, hb⟩; (try clear A14); refine ⟨_, rfl, ?_⟩; have n0_ := Aside0.mk (blkB BK191 hb); have n1_ := Aside0.mk (below_step (BW HB) hb); clear BK191; clear HB; have BK191 := n0_; have HB := n1_; clear n0_ n1_; (try clear hb); obtain ⟨hcz19_0, hcz19_1, hcz19_2, hcz19_3, hcz19_4, hcz19_5, hcz19_6, hcz19_7, hcz19_8, hcz19_9, hcz19_10, hfz19_0, hfz19_1, hfz19_2, hfz19_3, hfz19_4, hfz19_5, hfz19_6, hfz19_7, hfz19_8, hfz19_9, hfz19_10⟩ := blk11 BK191.out))
  go_ret
  exact ⟨by first | rfl | (simp [errW_none, errW_some] <;> rfl) | (simp only [← hji3]; first | rfl | (simp [errW_none, errW_some] <;> rfl)) | (simp [*, errW_none, errW_some] <;> rfl), BW HB⟩
 replace c15 := Bool.eq_false_iff.mpr c15
 subst c15
 have H1 : ((weighbridgeref08_Fill.f a1 a0_1 a0_2 t196).bind fun bt198 => (some bt198.1)) = some r := by rw [if_neg (show ¬ (false = true) by decide)] at H; exact H
 clear H
 have H := H1
 clear H1
 replace H := Option.bind_eq_some_iff.mp H
 obtain ⟨⟨t198, t199⟩, A200, H⟩ := H
 (try set_option simprocs false in dsimp only at H)
 have A20 := Aside0.mk A200
 clear A200
 obtain rfl := Option.some.inj H
 go_enter Try.func18, Try.ntmps18
 go_wp2_with (first | ((with_reducible refine gate_dst (N := 2) rfl ?_); refine box_event ?hg (N := 2) ?hd (cs := (r11 a0_0 a0_1 a0_2 a0_3 a0_4 a0_5 a0_6 a0_7 false a0_9 a0_10)) (t := 25) ?hr ?_; (case hd => rfl); (case hg => rfl); (case hr => first | (go_simp; done) | (go_simp; rfl)); intro gb191 hg w21 hbox hb; have n0_ := Aside0.mk (below_step (BW HB) hb); have n1_ := Aside0.mk (hbox); have n2_ := Aside0.mk ((by rw [hg]; exact (below_size (BW HB)) : w.heap.size ≤ gb191)); have n3_ := Aside0.mk ((by rw [hg]; exact (below_size (BW HB)) : w.heap.size ≤ gb191)); clear HB; have HB := n0_; have BK191 := n1_; have GW191 := n2_; have GE191 := n3_; clear n0_ n1_ n2_ n3_; clear hb hbox hg; obtain ⟨hcz22_0, hcz22_1, hcz22_2, hcz22_3, hcz22_4, hcz22_5, hcz22_6, hcz22_7, hcz22_8, hcz22_9, hcz22_10, hfz22_0, hfz22_1, hfz22_2, hfz22_3, hfz22_4, hfz22_5, hfz22_6, hfz22_7, hfz22_8, hfz22_9, hfz22_10⟩ := blk11 BK191.out) | ((with_reducible refine gate_callee (f := 44) rfl ?_); refine goesL_ (some 58) rfl rfl Try.func44 (by kernel_rfl) rfl #[.int .i64 (wrap64 (a0_3)), .int .i64 (wrap64 (a0_4)), .string (a0_7.extract 0 ((ji3) : Int).toNat)] rfl (by (try simp only [List.map_toArray, List.map_cons, List.map_nil]); first | done | (simp only [hji3]; rfl) | rfl | (simp only [List.length_drop, List.length_take]; rfl)) ?_; (with_reducible refine (weighbridgeref06_Build.calls (wrap64 (a0_3)) (wrap64 (a0_4)) (a0_7.extract 0 ((ji3) : Int).toNat) t196 t197 _ A14.out).mono ?_); rintro e w23 ⟨rfl, hb⟩; (try clear A14); refine ⟨_, rfl, ?_⟩; have n0_ := Aside0.mk (blkB BK191 hb); have n1_ := Aside0.mk (below_step (BW HB) hb); clear BK191; clear HB; have BK191 := n0_; have HB := n1_; clear n0_ n1_; (try clear hb); obtain ⟨hcz24_0, hcz24_1, hcz24_2, hcz24_3, hcz24_4, hcz24_5, hcz24_6, hcz24_7, hcz24_8, hcz24_9, hcz24_10, hfz24_0, hfz24_1, hfz24_2, hfz24_3, hfz24_4, hfz24_5, hfz24_6, hfz24_7, hfz24_8, hfz24_9, hfz24_10⟩ := blk11 BK191.out) | ((with_reducible refine gate_callee (f := 30) rfl ?_); refine goesL_ (some 71) rfl rfl Try.func30 (by kernel_rfl) rfl #[.int .i64 a1, .int .u32 a0_1, .int .u32 a0_2, .string t196] rfl AG ?_; (with_reducible refine (weighbridgeref08_Fill.calls a1 a0_1 a0_2 t196 t198 t199 _ A20.out).mono ?_); rintro e w25 ⟨rfl, hb⟩; (try clear A20); refine ⟨_, rfl, ?_⟩; have n0_ := Aside0.mk (blkB BK191 hb); have n1_ := Aside0.mk (below_step (BW HB) hb); clear BK191; clear HB; have BK191 := n0_; have HB := n1_; clear n0_ n1_; (try clear hb)))
 go_ret
 exact ⟨by first | rfl | (simp [errW_none, errW_some] <;> rfl) | (simp only [← hji3]; first | rfl | (simp [errW_none, errW_some] <;> rfl)) | (simp [*, errW_none, errW_some] <;> rfl), BW HB⟩

theorem l10_cut (s : ByteArray) : 0 ≤ mn (s.size : Int) 40 ∧ mn (s.size : Int) 40 ≤ (s.size : Int) ∧ s.extract 0 (mn (s.size : Int) 40).toNat = lb ((bl s).take 40) := by
 have h : (mn (s.size : Int) 40).toNat = min s.size 40 := by unfold mn; omega
 refine ⟨by unfold mn; omega, by unfold mn; omega, Sp.bl_inj ?_⟩
 rw [Sp.bl_extract, Sp.bl_lb, h, List.drop_zero]
 by_cases hs : s.size ≤ 40
 ·rw [List.take_of_length_le (by rw [bl_length]; omega), List.take_of_length_le (by rw [bl_length]; omega)]
 rw [show min s.size 40 = 40 by omega]
theorem l10_tcp {a b c d e f g : Int} {t : List UInt8} : (Sp.tcpBuild a b c d e f g [] t).1.length ≤ 20 + t.length := by
 unfold Sp.tcpBuild
 split
 ·split
  ·exact Nat.zero_le _
  simp
 exact Nat.zero_le _
theorem l10_udp {a b : Int} {t : List UInt8} : (Sp.udpBuild a b t).1.length ≤ 8 + t.length := by
 unfold Sp.udpBuild
 split
 ·split
  ·exact Nat.zero_le _
  simp only [List.length_append, Sp.beBytes_length, List.length_cons, List.length_nil]; omega
 exact Nat.zero_le _
theorem l10_fill (p x y : Int) (s : List UInt8) : (Sp.pfill p x y s).1.length ≤ s.length := by
 unfold Sp.pfill
 split
 ·exact Sp.set_le _ _ _ _
 exact Nat.zero_le _
def l10Dom (k s d sp dp fl tt x y : Int) (b : ByteArray) : Bool := decide ((0 ≤ k ∧ k ≤ 255) ∧ (0 ≤ s ∧ s ≤ 4294967295) ∧ (0 ≤ d ∧ d ≤ 4294967295) ∧ (0 ≤ sp ∧ sp ≤ 65535) ∧ (0 ≤ dp ∧ dp ≤ 65535) ∧ (0 ≤ fl ∧ fl ≤ 255) ∧ (0 ≤ tt ∧ tt ≤ 255) ∧ (0 ≤ x ∧ x ≤ 4294967295) ∧ (0 ≤ y ∧ y ≤ 4294967295) ∧ b.size ≤ 140737488355328)
theorem l10Dom_iff {k s d sp dp fl tt x y : Int} {b : ByteArray} : l10Dom k s d sp dp fl tt x y b = true ↔ (0 ≤ k ∧ k ≤ 255) ∧ (0 ≤ s ∧ s ≤ 4294967295) ∧ (0 ≤ d ∧ d ≤ 4294967295) ∧ (0 ≤ sp ∧ sp ≤ 65535) ∧ (0 ≤ dp ∧ dp ≤ 65535) ∧ (0 ≤ fl ∧ fl ≤ 255) ∧ (0 ≤ tt ∧ tt ≤ 255) ∧ (0 ≤ x ∧ x ≤ 4294967295) ∧ (0 ≤ y ∧ y ≤ 4294967295) ∧ b.size ≤ 140737488355328 := decide_eq_true_iff
def weighbridgelaw10_segment.f (a0_0 a0_1 a0_2 a0_3 a0_4 a0_5 a0_6 : Int) (a0_7 : ByteArray) (a0_8 : Bool) (a0_9 a0_10 a1 : Int) : Option ByteArray := if l10Dom a0_0 a0_1 a0_2 a0_3 a0_4 a0_5 a0_6 a0_9 a0_10 a0_7 = true ∧ (a1 = 6 ∨ a1 = 17) then some (lb (Sp.segment a1 a0_1 a0_2 a0_3 a0_4 a0_5 a0_8 (bl a0_7))) else none
theorem weighbridgelaw10_segment_ev (a0_0 a0_1 a0_2 a0_3 a0_4 a0_5 a0_6 : Int) (a0_7 : ByteArray) (a0_8 : Bool) (a0_9 a0_10 a1 : Int) (r : ByteArray) (h : weighbridgelaw10_segment.f a0_0 a0_1 a0_2 a0_3 a0_4 a0_5 a0_6 a0_7 a0_8 a0_9 a0_10 a1 = some r) : weighbridgelaw10_segment_p.f a0_0 a0_1 a0_2 a0_3 a0_4 a0_5 a0_6 a0_7 a0_8 a0_9 a0_10 a1 = some r := by
 unfold weighbridgelaw10_segment.f at h
 split at h
 case isFalse => cases h
 case isTrue hs =>
  rw [← h]
  obtain ⟨hd, hp⟩ := hs
  obtain ⟨h0, h1, h2, h3, h4, h5, h6, h9, h10, h7⟩ := l10Dom_iff.1 hd
  obtain ⟨c0, c1, c2⟩ := l10_cut a0_7
  have hl : ((bl a0_7).take 40).length ≤ 40 := by rw [List.length_take]; omega
  unfold weighbridgelaw10_segment_p.f Sp.segment
  rw [if_pos c0, if_pos c1, c2, wrap_id (n := a0_3) (by omega) (by omega), wrap_id (n := a0_4) (by omega) (by omega)]
  by_cases h6 : a1 = 6
  ·subst h6
   have hw : wrap64 (Int.tmod a0_5 64) = a0_5 % 64 := by rw [Int.tmod_eq_emod_of_nonneg h5.1]; exact wrap_id (by omega) (by omega)
   have ht := l10_tcp (a := a0_3) (b := a0_4) (c := 7) (d := 0) (e := a0_5 % 64) (f := 9) (g := 0) (t := (bl a0_7).take 40)
   rw [if_pos rfl, if_pos rfl, hw, weighbridgeref05_Build_eq (by decide) (by decide) (by decide) (by rw [lb_size]; omega), Option.bind_some, bl_lb]
   simp only
   rw [weighbridgeref08_Fill_eq (by decide) h1 h2 (by rw [lb_size]; show (Sp.tcpBuild _ _ _ _ _ _ _ [] _).1.length ≤ _; omega), Option.bind_some, bl_lb]
   rfl
  rw [if_neg h6, if_neg h6, weighbridgeref06_Build_eq (by rw [lb_size]; omega), Option.bind_some, bl_lb]
  have hu := l10_udp (a := a0_3) (b := a0_4) (t := (bl a0_7).take 40)
  by_cases hz : a0_8 = true
  ·rw [if_pos hz, if_pos hz]
  rw [if_neg hz, if_neg hz]
  simp only
  rw [weighbridgeref08_Fill_eq ⟨by omega, by omega⟩ h1 h2 (by rw [lb_size]; omega), Option.bind_some, bl_lb]
theorem weighbridgelaw10_segment.calls (a0_0 : Int) (a0_1 : Int) (a0_2 : Int) (a0_3 : Int) (a0_4 : Int) (a0_5 : Int) (a0_6 : Int) (a0_7 : ByteArray) (a0_8 : Bool) (a0_9 : Int) (a0_10 : Int) (a1 : Int) (r : ByteArray) (w : World) (h : weighbridgelaw10_segment.f a0_0 a0_1 a0_2 a0_3 a0_4 a0_5 a0_6 a0_7 a0_8 a0_9 a0_10 a1 = some r) :
  Calls Try.prog 18 #[.agg #[.int .u8 a0_0, .int .u32 a0_1, .int .u32 a0_2, .int .u16 a0_3, .int .u16 a0_4, .int .u8 a0_5, .int .u8 a0_6, .string a0_7, .bool a0_8, .int .u32 a0_9, .int .u32 a0_10], .int .i64 a1] w fun e w' => e = .returned (.string r) ∧ Below w.heap.size w w' := by
 have hk := weighbridgelaw10_segment_ev a0_0 a0_1 a0_2 a0_3 a0_4 a0_5 a0_6 a0_7 a0_8 a0_9 a0_10 a1 _ h
 exact weighbridgelaw10_segment_p.calls a0_0 a0_1 a0_2 a0_3 a0_4 a0_5 a0_6 a0_7 a0_8 a0_9 a0_10 a1 r w hk

/-! ### weighbridgelaw10_Make_frame_p: function 11 -/
def weighbridgelaw10_Make_frame_p.j0 : Nat → Int → Int → Int → Int → Int → Int → Int → Int → ByteArray → Bool → Int → Int → Option (ByteArray)
 | 0, _, _, _, _, _, _, _, _, _, _, _, _ => none
 | k + 1, x3, x207000, x207001, x207002, x207003, x207004, x207005, x207006, x207007, x207008, x207009, x207010 => (weighbridgelaw10_segment.f x207000 x207001 x207002 x207003 x207004 x207005 x207006 x207007 x207008 x207009 x207010 x3).bind fun t207 => ((weighbridgeref04_Build.f 0 5 0 0 (wrap64 (x207006)) x3 x207001 x207002 (⟨#[]⟩ : ByteArray) t207).bind fun bt208 => (if (Int.tmod x207000 4) < 2 then (some bt208.1) else (if x207008 = true then (if 0 ≤ 28 then (if 28 ≤ (bt208.1.size : Int) then ((weighbridgeref07_Build.f 3 (wrap64 (Int.tmod x207005 6)) 1400 (bt208.1.extract 0 28)).bind fun bt210 => ((weighbridgeref04_Build.f 0 0 0 0 (wrap64 (x207006)) 1 x207009 x207010 (⟨#[]⟩ : ByteArray) bt210.1).bind fun bt212 => (some bt212.1))) else (none)) else (none)) else (if 0 ≤ (bt208.1.size : Int) then (if (bt208.1.size : Int) ≤ (bt208.1.size : Int) then ((weighbridgeref07_Build.f 3 (wrap64 (Int.tmod x207005 6)) 1400 (bt208.1.extract 0 ((bt208.1.size : Int) : Int).toNat)).bind fun bt214 => ((weighbridgeref04_Build.f 0 0 0 0 (wrap64 (x207006)) 1 x207009 x207010 (⟨#[]⟩ : ByteArray) bt214.1).bind fun bt216 => (some bt216.1))) else (none)) else (none)))))
def weighbridgelaw10_Make_frame_p.f (k : Nat) (a0_0 : Int) (a0_1 : Int) (a0_2 : Int) (a0_3 : Int) (a0_4 : Int) (a0_5 : Int) (a0_6 : Int) (a0_7 : ByteArray) (a0_8 : Bool) (a0_9 : Int) (a0_10 : Int) : Option (ByteArray) := if (Int.tmod a0_0 2) = 1 then (weighbridgelaw10_Make_frame_p.j0 k 17 a0_0 a0_1 a0_2 a0_3 a0_4 a0_5 a0_6 a0_7 a0_8 a0_9 a0_10) else (weighbridgelaw10_Make_frame_p.j0 k 6 a0_0 a0_1 a0_2 a0_3 a0_4 a0_5 a0_6 a0_7 a0_8 a0_9 a0_10)
theorem weighbridgelaw10_Make_frame_p.mono_l : ∀ k, (∀ y0 y1 y2 y3 y4 y5 y6 y7 y8 y9 y10 y11, LeO (weighbridgelaw10_Make_frame_p.j0 k y0 y1 y2 y3 y4 y5 y6 y7 y8 y9 y10 y11) (weighbridgelaw10_Make_frame_p.j0 (k + 1) y0 y1 y2 y3 y4 y5 y6 y7 y8 y9 y10 y11))
 | 0 => fun _ _ _ _ _ _ _ _ _ _ _ _ r h => by simp [weighbridgelaw10_Make_frame_p.j0] at h
 | k + 1 => by
  have ih0 := weighbridgelaw10_Make_frame_p.mono_l k
  ·intro y0 y1 y2 y3 y4 y5 y6 y7 y8 y9 y10 y11
   unfold weighbridgelaw10_Make_frame_p.j0
   repeat' first
   | (with_reducible exact ih0 _ _ _ _ _ _ _ _ _ _ _ _)
   | (with_reducible exact LeO.refl _)
   | (with_reducible exact LeO.none _)
   | (with_reducible refine LeO.ite ?_ ?_)
   | (with_reducible refine LeO.bind ?_ (fun _ => ?_))
   | exact ih0 _ _ _ _ _ _ _ _ _ _ _ _
   | exact LeO.none _
   | refine LeO.ite ?_ ?_
   | refine LeO.bind ?_ (fun _ => ?_)
theorem weighbridgelaw10_Make_frame_p.mono : ∀ a0 a1 a2 a3 a4 a5 a6 a7 a8 a9 a10 k, LeO (weighbridgelaw10_Make_frame_p.f k a0 a1 a2 a3 a4 a5 a6 a7 a8 a9 a10) (weighbridgelaw10_Make_frame_p.f (k + 1) a0 a1 a2 a3 a4 a5 a6 a7 a8 a9 a10) := by
 intro a0 a1 a2 a3 a4 a5 a6 a7 a8 a9 a10 k
 have ih0 := weighbridgelaw10_Make_frame_p.mono_l k
 unfold weighbridgelaw10_Make_frame_p.f
 repeat' first
   | (with_reducible exact ih0 _ _ _ _ _ _ _ _ _ _ _ _)
   | (with_reducible exact LeO.refl _)
   | (with_reducible exact LeO.none _)
   | (with_reducible refine LeO.ite ?_ ?_)
   | (with_reducible refine LeO.bind ?_ (fun _ => ?_))
   | exact ih0 _ _ _ _ _ _ _ _ _ _ _ _
   | exact LeO.none _
   | refine LeO.ite ?_ ?_
   | refine LeO.bind ?_ (fun _ => ?_)
def weighbridgelaw10_Make_frame_p.T4 : Bool × List (List Nat × List Nat) := (true, [([], []), ([0], [0]), ([1], [1]), ([], []), ([], []), ([4], [4]), ([], []), ([6], [6]), ([2, 3, 5, 7], [2, 3, 5, 7]), ([], []), ([], []), ([9, 10], [9, 10]), ([8, 11, 11], [8, 11]), ([12], [12]), ([13], [13]), ([13], [13]), ([14, 12, 0, 1, 2, 3, 4, 5, 6, 7, 8, 9, 10, 11, 12, 13, 14], [14]), ([15, 16, 0, 1, 2, 3, 4, 5, 6, 7, 8, 9, 10, 11, 12, 13, 14, 15, 16], [15])])
def weighbridgelaw10_Make_frame_p.B4 : List Nat := [0, 1, 3, 0, 0, 16, 0, 64, 255, 0, 0, 1536, 4095, 8191, 16383, 16383, 32767, 131071]
theorem weighbridgelaw10_Make_frame_p.tab4 : rtab .any (opsOf Try.f11 4) = weighbridgelaw10_Make_frame_p.T4 := by kernel_rfl
theorem weighbridgelaw10_Make_frame_p.bits4 : waitsOk weighbridgelaw10_Make_frame_p.T4.2 weighbridgelaw10_Make_frame_p.B4 = true := by kernel_rfl
def weighbridgelaw10_Make_frame_p.T10 : Bool × List (List Nat × List Nat) := (true, [([], []), ([0], [0]), ([1], [1]), ([2], [2]), ([], []), ([], []), ([4, 5], [4, 5]), ([3, 6], [3, 6]), ([7], [7]), ([8], [8]), ([9], [9]), ([9], [9]), ([10, 8, 0, 1, 2, 3, 4, 5, 6, 7, 8, 9, 10], [10]), ([11, 12, 0, 1, 2, 3, 4, 5, 6, 7, 8, 9, 10, 11, 12], [11])])
def weighbridgelaw10_Make_frame_p.B10 : List Nat := [0, 1, 3, 7, 0, 0, 48, 127, 255, 511, 1023, 1023, 2047, 8191]
theorem weighbridgelaw10_Make_frame_p.tab10 : rtab .any (opsOf Try.f11 10) = weighbridgelaw10_Make_frame_p.T10 := by kernel_rfl
theorem weighbridgelaw10_Make_frame_p.bits10 : waitsOk weighbridgelaw10_Make_frame_p.T10.2 weighbridgelaw10_Make_frame_p.B10 = true := by kernel_rfl
set_option maxHeartbeats 8000000 in
set_option maxRecDepth 100000 in
theorem weighbridgelaw10_Make_frame_p.calls (k : Nat) (a0_0 : Int) (a0_1 : Int) (a0_2 : Int) (a0_3 : Int) (a0_4 : Int) (a0_5 : Int) (a0_6 : Int) (a0_7 : ByteArray) (a0_8 : Bool) (a0_9 : Int) (a0_10 : Int) (r : ByteArray) (w : World) (h : weighbridgelaw10_Make_frame_p.f k a0_0 a0_1 a0_2 a0_3 a0_4 a0_5 a0_6 a0_7 a0_8 a0_9 a0_10 = some r) :
  Calls Try.prog 11 #[.agg #[.int .u8 a0_0, .int .u32 a0_1, .int .u32 a0_2, .int .u16 a0_3, .int .u16 a0_4, .int .u8 a0_5, .int .u8 a0_6, .string a0_7, .bool a0_8, .int .u32 a0_9, .int .u32 a0_10]] w fun e w' => e = .returned (.string r) ∧ Below w.heap.size w w' := by
 have hu25 := Try.underlying25
 have hu52 := Try.underlying52
 have hu56 := Try.underlying56
 have HB := Aside0.mk (Below.refl w.heap.size w)
 have H : (if (Int.tmod a0_0 2) = 1 then (weighbridgelaw10_Make_frame_p.j0 k 17 a0_0 a0_1 a0_2 a0_3 a0_4 a0_5 a0_6 a0_7 a0_8 a0_9 a0_10) else (weighbridgelaw10_Make_frame_p.j0 k 6 a0_0 a0_1 a0_2 a0_3 a0_4 a0_5 a0_6 a0_7 a0_8 a0_9 a0_10)) = some r := h
 clear h
 have HC2 := Aside0.mk H
 clear H
 go_enter Try.func11, Try.ntmps11
 go_upto_if 14 with (first | ((with_reducible refine gate_dst (N := 1) rfl ?_); refine box_event ?hg (N := 1) ?hd (cs := (r11 a0_0 a0_1 a0_2 a0_3 a0_4 a0_5 a0_6 a0_7 a0_8 a0_9 a0_10)) (t := 25) ?hr ?_; (case hd => rfl); (case hg => rfl); (case hr => first | (go_simp; done) | (go_simp; rfl)); intro gb206 hg w3 hbox hb; have n0_ := Aside0.mk (below_step (BW HB) hb); have n1_ := Aside0.mk (hbox); have n2_ := Aside0.mk ((by rw [hg]; exact (below_size (BW HB)) : w.heap.size ≤ gb206)); have n3_ := Aside0.mk ((by rw [hg]; exact (below_size (BW HB)) : w.heap.size ≤ gb206)); clear HB; have HB := n0_; have BK206 := n1_; have GW206 := n2_; have GE206 := n3_; clear n0_ n1_ n2_ n3_; clear hb hbox hg; obtain ⟨hcz4_0, hcz4_1, hcz4_2, hcz4_3, hcz4_4, hcz4_5, hcz4_6, hcz4_7, hcz4_8, hcz4_9, hcz4_10, hfz4_0, hfz4_1, hfz4_2, hfz4_3, hfz4_4, hfz4_5, hfz4_6, hfz4_7, hfz4_8, hfz4_9, hfz4_10⟩ := blk11 BK206.out))
 (try simp only [Act.put, List.setIfInBounds_toArray, List.set_cons_zero, List.set_cons_succ])
 go_cut [3] (fun v3 wc => ∃ (kq : Nat) (x3_1 : Int), v3 = .int .i64 x3_1 ∧ Aside0 (weighbridgelaw10_Make_frame_p.j0 kq x3_1 a0_0 a0_1 a0_2 a0_3 a0_4 a0_5 a0_6 a0_7 a0_8 a0_9 a0_10 = some r) ∧ Aside0 (kq ≤ k) ∧ Aside0 (wc.heap[gb206]? = some (.cells (r11 a0_0 a0_1 a0_2 a0_3 a0_4 a0_5 a0_6 a0_7 a0_8 a0_9 a0_10) 25 (0, 0))) ∧ Aside0 (Below w.heap.size w wc))
 case first =>
  have H := HC2.out
  clear HC2
  by_cases c5 : (Int.tmod a0_0 2) = 1
  ·rw [if_pos c5] at H
   have c5b0 : ((Int.tmod a0_0 2) == 1) = true := beq_iff_eq.mpr c5
   have c5b1 : ((Int.tmod a0_0 2) != 1) = false := bne_eq_false_iff_eq.mpr c5
   clear c5
   (first | rw [c5b0] | (simp only [i64_w, i32_w]; rw [c5b0]) | skip)
   have H' := Aside0.mk H
   clear H
   go_wp2
   go_meet
   case rel => exact ⟨_, (17), (by first | rfl | (simp; done) | (congr 2; simp only [ByteArray.size_extract, ByteArray.size_append]; (try unfold wrap64); omega) | (simp only [ByteArray.size_extract, ByteArray.size_append, Nat.sub_zero]; done) | (congr 1; simp only [ByteArray.size_extract, ByteArray.size_append, Nat.sub_zero]; omega) | (simp [*]; done)), H', ⟨by first | omega | exact Nat.le_refl _⟩, ⟨BD BK206⟩, ⟨BW HB⟩⟩
  rw [if_neg c5] at H
  have c5b0 : ((Int.tmod a0_0 2) == 1) = false := beq_eq_false_iff_ne.mpr c5
  have c5b1 : ((Int.tmod a0_0 2) != 1) = true := bne_iff_ne.mpr c5
  (first | rw [c5b0] | (simp only [i64_w, i32_w]; rw [c5b0]) | skip)
  have H' := Aside0.mk H
  clear H
  go_wp2
  go_meet
  case rel => exact ⟨_, (6), (by first | rfl | (simp; done) | (congr 2; simp only [ByteArray.size_extract, ByteArray.size_append]; (try unfold wrap64); omega) | (simp only [ByteArray.size_extract, ByteArray.size_append, Nat.sub_zero]; done) | (congr 1; simp only [ByteArray.size_extract, ByteArray.size_append, Nat.sub_zero]; omega) | (simp [*]; done)), H', ⟨by first | omega | exact Nat.le_refl _⟩, ⟨BD BK206⟩, ⟨BW HB⟩⟩
 case rest =>
  clear HC2
  try clear c1
  try clear p2
  try clear c5
  try clear c5b0
  try clear c5b1
  try clear hcz4_0
  try clear hcz4_1
  try clear hcz4_10
  try clear hcz4_2
  try clear hcz4_3
  try clear hcz4_4
  try clear hcz4_5
  try clear hcz4_6
  try clear hcz4_7
  try clear hcz4_8
  try clear hcz4_9
  try clear hfz4_0
  try clear hfz4_1
  try clear hfz4_10
  try clear hfz4_2
  try clear hfz4_3
  try clear hfz4_4
  try clear hfz4_5
  try clear hfz4_6
  try clear hfz4_7
  try clear hfz4_8
  try clear hfz4_9
  obtain ⟨kq, x3_1, rfl, HA, HJ1, BK206, HB⟩ := hcut
  cases kq with
  | zero => exact absurd HA.out (by simp [weighbridgelaw10_Make_frame_p.j0])
  | succ kj1 =>
   have H := HA.out
   clear HA
   simp only [weighbridgelaw10_Make_frame_p.j0] at H
   replace H := Option.bind_eq_some_iff.mp H
   obtain ⟨t207, A60, H⟩ := H
   (try set_option simprocs false in dsimp only at H)
   have A6 := Aside0.mk A60
   clear A60
   replace H := Option.bind_eq_some_iff.mp H
   obtain ⟨⟨t208, t209⟩, A70, H⟩ := H
   (try set_option simprocs false in dsimp only at H)
   have A7 := Aside0.mk A70
   clear A70
   by_cases c8 : (Int.tmod a0_0 4) < 2
   ·rw [if_pos c8] at H
    have c8b0 : decide ((Int.tmod a0_0 4) < 2) = true := decide_eq_true c8
    clear c8
    obtain rfl := Option.some.inj H
    try go_wp2
    have n0_ := Aside0.mk (blk_drew BK206.out)
    have n1_ := Aside0.mk (below_drew1 HB.out)
    clear BK206
    clear HB
    have BK206 := n0_
    have HB := n1_
    clear n0_ n1_
    refine start_ (n := 18) (S := fun w' => w'.cell? ⟨gb206, 0, none⟩ = some (.int .u8 a0_0) ∧ w'.cell? ⟨gb206, 1, none⟩ = some (.int .u32 a0_1) ∧ w'.cell? ⟨gb206, 2, none⟩ = some (.int .u32 a0_2) ∧ w'.cell? ⟨gb206, 3, none⟩ = some (.int .u16 a0_3) ∧ w'.cell? ⟨gb206, 4, none⟩ = some (.int .u16 a0_4) ∧ w'.cell? ⟨gb206, 5, none⟩ = some (.int .u8 a0_5) ∧ w'.cell? ⟨gb206, 6, none⟩ = some (.int .u8 a0_6) ∧ w'.cell? ⟨gb206, 7, none⟩ = some (.string a0_7) ∧ w'.cell? ⟨gb206, 8, none⟩ = some (.bool a0_8) ∧ w'.cell? ⟨gb206, 9, none⟩ = some (.int .u32 a0_9) ∧ w'.cell? ⟨gb206, 10, none⟩ = some (.int .u32 a0_10)) (ds := []) (bm 18 0x0) (by kernel_rfl) rfl rfl ⟨(blk_cell BK206.out 0).trans rfl, (blk_cell BK206.out 1).trans rfl, (blk_cell BK206.out 2).trans rfl, (blk_cell BK206.out 3).trans rfl, (blk_cell BK206.out 4).trans rfl, (blk_cell BK206.out 5).trans rfl, (blk_cell BK206.out 6).trans rfl, (blk_cell BK206.out 7).trans rfl, (blk_cell BK206.out 8).trans rfl, (blk_cell BK206.out 9).trans rfl, (blk_cell BK206.out 10).trans rfl⟩ (fun hHeld => ?_); refine with_tabW weighbridgelaw10_Make_frame_p.tab4 weighbridgelaw10_Make_frame_p.bits4 (fun HT_ HW_ => ?_)
    generalize wc.drew = w9 at BK206 HB hHeld ⊢
    refine pu 0 16 (bm 18 0x1) HT_ ?_
    refine pu 3 19 (bm 18 0x9) HT_ ?_
    refine pu 4 20 (bm 18 0x19) HT_ ?_
    refine pu 6 22 (bm 18 0x59) HT_ ?_
    refine pu 10 26 (bm 18 0x459) HT_ ?_
    refine tw11 1 17 (bm 18 0x45b) HT_ HW_ hHeld ?_
    refine pu 2 18 (bm 18 0x45f) HT_ ?_
    refine tw11 5 21 (bm 18 0x47f) HT_ HW_ hHeld ?_
    refine tw11 7 23 (bm 18 0x4ff) HT_ HW_ hHeld ?_
    refine pu 8 24 (bm 18 0x5ff) HT_ ?_
    refine tw11 9 25 (bm 18 0x7ff) HT_ HW_ hHeld ?_
    refine one_ (i := 11) (N := some 27) (bm 18 0xfff) rfl rfl (one_of HT_.out (by kernel_rfl)) (by decide) (fun K hK => ?_)
    refine goes_ Try.func18 (by kernel_rfl) rfl #[.agg #[.int .u8 a0_0, .int .u32 a0_1, .int .u32 a0_2, .int .u16 a0_3, .int .u16 a0_4, .int .u8 a0_5, .int .u8 a0_6, .string a0_7, .bool a0_8, .int .u32 a0_9, .int .u32 a0_10], .int .i64 x3_1] (by rfl) rfl rfl (by (try simp only [List.map_toArray, List.map_cons, List.map_nil]); first | done | rfl | (simp only [Int.toNat_natCast]; first | done | rfl) | (rw [Int.toNat_natCast, ByteArray.extract_zero_size]; rfl) | (simp only [List.length_drop, List.length_take]; rfl)) ?_
    with_reducible refine (weighbridgelaw10_segment.calls a0_0 a0_1 a0_2 a0_3 a0_4 a0_5 a0_6 a0_7 a0_8 a0_9 a0_10 x3_1 t207 _ A6.out).mono ?_
    rintro e w10 ⟨rfl, hb⟩
    refine ⟨_, rfl, ?_⟩
    have n0_ := Aside0.mk (blkB BK206 hb)
    have n1_ := Aside0.mk (below_step (BW HB) hb)
    clear BK206
    clear HB
    have BK206 := n0_
    have HB := n1_
    clear n0_ n1_
    (try clear hb)
    (try clear hb2)
    (try clear hk)
    (try clear hi)
    refine hK.out _ _ ⟨(blk_cell BK206.out 0).trans rfl, (blk_cell BK206.out 1).trans rfl, (blk_cell BK206.out 2).trans rfl, (blk_cell BK206.out 3).trans rfl, (blk_cell BK206.out 4).trans rfl, (blk_cell BK206.out 5).trans rfl, (blk_cell BK206.out 6).trans rfl, (blk_cell BK206.out 7).trans rfl, (blk_cell BK206.out 8).trans rfl, (blk_cell BK206.out 9).trans rfl, (blk_cell BK206.out 10).trans rfl⟩ (fun hHeld => ?_)
    clear hK K
    refine norm_ (a' := ?_) ?_ ?_
    rotate_left
    ·show Act.put _ (some 27) _ = _
     simp only [Act.put, zpA, zpO, zpS, i64_w, i32_w]
     rfl
    refine one_ (i := 12) (N := some 28) (bm 18 0x1fff) rfl rfl (one_of HT_.out (by kernel_rfl)) (by decide) (fun K hK => ?_)
    refine goes_ Try.func17 (by kernel_rfl) rfl #[.agg #[.int .i64 0, .int .i64 5, .int .i64 0, .int .i64 0, .int .i64 (wrap64 (a0_6)), .int .i64 x3_1, .int .u32 a0_1, .int .u32 a0_2, .string (⟨#[]⟩ : ByteArray)], .string t207] (by rfl) rfl rfl (by (try simp only [List.map_toArray, List.map_cons, List.map_nil]); first | done | rfl | (simp only [Int.toNat_natCast]; first | done | rfl) | (rw [Int.toNat_natCast, ByteArray.extract_zero_size]; rfl) | (simp only [List.length_drop, List.length_take]; rfl)) ?_
    with_reducible refine (weighbridgeref04_Build.calls 0 5 0 0 (wrap64 (a0_6)) x3_1 a0_1 a0_2 (⟨#[]⟩ : ByteArray) t207 t208 t209 _ A7.out).mono ?_
    rintro e w11 ⟨rfl, hb⟩
    refine ⟨_, rfl, ?_⟩
    have n0_ := Aside0.mk (blkB BK206 hb)
    have n1_ := Aside0.mk (below_step (BW HB) hb)
    clear BK206
    clear HB
    have BK206 := n0_
    have HB := n1_
    clear n0_ n1_
    (try clear hb)
    (try clear hb2)
    (try clear hk)
    (try clear hi)
    refine hK.out _ _ ⟨(blk_cell BK206.out 0).trans rfl, (blk_cell BK206.out 1).trans rfl, (blk_cell BK206.out 2).trans rfl, (blk_cell BK206.out 3).trans rfl, (blk_cell BK206.out 4).trans rfl, (blk_cell BK206.out 5).trans rfl, (blk_cell BK206.out 6).trans rfl, (blk_cell BK206.out 7).trans rfl, (blk_cell BK206.out 8).trans rfl, (blk_cell BK206.out 9).trans rfl, (blk_cell BK206.out 10).trans rfl⟩ (fun hHeld => ?_)
    clear hK K
    refine norm_ (a' := ?_) ?_ ?_
    rotate_left
    ·show Act.put _ (some 28) _ = _
     simp only [Act.put, zpA, zpO, zpS, i64_w, i32_w]
     rfl
    refine pu 13 15 (bm 18 0x3fff) HT_ ?_
    refine pu 14 29 (bm 18 0x7fff) HT_ ?_
    refine pu 15 30 (bm 18 0xffff) HT_ ?_
    refine pu 16 4 (bm 18 0x1ffff) HT_ ?_
    refine pu 17 5 (bm 18 0x3ffff) HT_ ?_
    refine done_ (done_of HT_.out (by kernel_rfl)) ?_
    obtain ⟨hcz12_0, hcz12_1, hcz12_2, hcz12_3, hcz12_4, hcz12_5, hcz12_6, hcz12_7, hcz12_8, hcz12_9, hcz12_10, hfz12_0, hfz12_1, hfz12_2, hfz12_3, hfz12_4, hfz12_5, hfz12_6, hfz12_7, hfz12_8, hfz12_9, hfz12_10⟩ := blk11 BK206.out
    try go_wp2
    go_ret
    exact ⟨RT, BW HB⟩
   rw [if_neg c8] at H
   have c8b0 : decide ((Int.tmod a0_0 4) < 2) = false := decide_eq_false c8
   clear c8
   by_cases c13 : a0_8 = true
   ·subst c13
    first | rw [if_pos rfl] at H | rw [if_pos trivial] at H
    by_cases c14 : 0 ≤ 28
    rotate_left
    ·rw [if_neg c14] at H
     exact absurd H (by simp)
    rw [if_pos c14] at H
    have c14b0 := eq_true c14
    have c14b1 : decide (0 ≤ 28) = true := decide_eq_true c14
    clear c14
    by_cases c15 : 28 ≤ (t208.size : Int)
    rotate_left
    ·rw [if_neg c15] at H
     exact absurd H (by simp)
    rw [if_pos c15] at H
    have c15b0 := eq_true c15
    have c15b1 : decide (28 ≤ (t208.size : Int)) = true := decide_eq_true c15
    clear c15
    replace H := Option.bind_eq_some_iff.mp H
    obtain ⟨⟨t210, t211⟩, A160, H⟩ := H
    (try set_option simprocs false in dsimp only at H)
    have A16 := Aside0.mk A160
    clear A160
    replace H := Option.bind_eq_some_iff.mp H
    obtain ⟨⟨t212, t213⟩, A170, H⟩ := H
    (try set_option simprocs false in dsimp only at H)
    have A17 := Aside0.mk A170
    clear A170
    obtain rfl := Option.some.inj H
    try go_wp2
    have n0_ := Aside0.mk (blk_drew BK206.out)
    have n1_ := Aside0.mk (below_drew1 HB.out)
    clear BK206
    clear HB
    have BK206 := n0_
    have HB := n1_
    clear n0_ n1_
    refine start_ (n := 18) (S := fun w' => w'.cell? ⟨gb206, 0, none⟩ = some (.int .u8 a0_0) ∧ w'.cell? ⟨gb206, 1, none⟩ = some (.int .u32 a0_1) ∧ w'.cell? ⟨gb206, 2, none⟩ = some (.int .u32 a0_2) ∧ w'.cell? ⟨gb206, 3, none⟩ = some (.int .u16 a0_3) ∧ w'.cell? ⟨gb206, 4, none⟩ = some (.int .u16 a0_4) ∧ w'.cell? ⟨gb206, 5, none⟩ = some (.int .u8 a0_5) ∧ w'.cell? ⟨gb206, 6, none⟩ = some (.int .u8 a0_6) ∧ w'.cell? ⟨gb206, 7, none⟩ = some (.string a0_7) ∧ w'.cell? ⟨gb206, 8, none⟩ = some (.bool true) ∧ w'.cell? ⟨gb206, 9, none⟩ = some (.int .u32 a0_9) ∧ w'.cell? ⟨gb206, 10, none⟩ = some (.int .u32 a0_10)) (ds := []) (bm 18 0x0) (by kernel_rfl) rfl rfl ⟨(blk_cell BK206.out 0).trans rfl, (blk_cell BK206.out 1).trans rfl, (blk_cell BK206.out 2).trans rfl, (blk_cell BK206.out 3).trans rfl, (blk_cell BK206.out 4).trans rfl, (blk_cell BK206.out 5).trans rfl, (blk_cell BK206.out 6).trans rfl, (blk_cell BK206.out 7).trans rfl, (blk_cell BK206.out 8).trans rfl, (blk_cell BK206.out 9).trans rfl, (blk_cell BK206.out 10).trans rfl⟩ (fun hHeld => ?_); refine with_tabW weighbridgelaw10_Make_frame_p.tab4 weighbridgelaw10_Make_frame_p.bits4 (fun HT_ HW_ => ?_)
    generalize wc.drew = w18 at BK206 HB hHeld ⊢
    refine pu 0 16 (bm 18 0x1) HT_ ?_
    refine pu 3 19 (bm 18 0x9) HT_ ?_
    refine pu 4 20 (bm 18 0x19) HT_ ?_
    refine pu 6 22 (bm 18 0x59) HT_ ?_
    refine pu 10 26 (bm 18 0x459) HT_ ?_
    refine tw11 1 17 (bm 18 0x45b) HT_ HW_ hHeld ?_
    refine pu 2 18 (bm 18 0x45f) HT_ ?_
    refine tw11 5 21 (bm 18 0x47f) HT_ HW_ hHeld ?_
    refine tw11 7 23 (bm 18 0x4ff) HT_ HW_ hHeld ?_
    refine pu 8 24 (bm 18 0x5ff) HT_ ?_
    refine tw11 9 25 (bm 18 0x7ff) HT_ HW_ hHeld ?_
    refine one_ (i := 11) (N := some 27) (bm 18 0xfff) rfl rfl (one_of HT_.out (by kernel_rfl)) (by decide) (fun K hK => ?_)
    refine goes_ Try.func18 (by kernel_rfl) rfl #[.agg #[.int .u8 a0_0, .int .u32 a0_1, .int .u32 a0_2, .int .u16 a0_3, .int .u16 a0_4, .int .u8 a0_5, .int .u8 a0_6, .string a0_7, .bool true, .int .u32 a0_9, .int .u32 a0_10], .int .i64 x3_1] (by rfl) rfl rfl (by (try simp only [List.map_toArray, List.map_cons, List.map_nil]); first | done | rfl | (simp only [Int.toNat_natCast]; first | done | rfl) | (rw [Int.toNat_natCast, ByteArray.extract_zero_size]; rfl) | (simp only [List.length_drop, List.length_take]; rfl)) ?_
    with_reducible refine (weighbridgelaw10_segment.calls a0_0 a0_1 a0_2 a0_3 a0_4 a0_5 a0_6 a0_7 true a0_9 a0_10 x3_1 t207 _ A6.out).mono ?_
    rintro e w19 ⟨rfl, hb⟩
    refine ⟨_, rfl, ?_⟩
    have n0_ := Aside0.mk (blkB BK206 hb)
    have n1_ := Aside0.mk (below_step (BW HB) hb)
    clear BK206
    clear HB
    have BK206 := n0_
    have HB := n1_
    clear n0_ n1_
    (try clear hb)
    (try clear hb2)
    (try clear hk)
    (try clear hi)
    refine hK.out _ _ ⟨(blk_cell BK206.out 0).trans rfl, (blk_cell BK206.out 1).trans rfl, (blk_cell BK206.out 2).trans rfl, (blk_cell BK206.out 3).trans rfl, (blk_cell BK206.out 4).trans rfl, (blk_cell BK206.out 5).trans rfl, (blk_cell BK206.out 6).trans rfl, (blk_cell BK206.out 7).trans rfl, (blk_cell BK206.out 8).trans rfl, (blk_cell BK206.out 9).trans rfl, (blk_cell BK206.out 10).trans rfl⟩ (fun hHeld => ?_)
    clear hK K
    refine norm_ (a' := ?_) ?_ ?_
    rotate_left
    ·show Act.put _ (some 27) _ = _
     simp only [Act.put, zpA, zpO, zpS, i64_w, i32_w]
     rfl
    refine one_ (i := 12) (N := some 28) (bm 18 0x1fff) rfl rfl (one_of HT_.out (by kernel_rfl)) (by decide) (fun K hK => ?_)
    refine goes_ Try.func17 (by kernel_rfl) rfl #[.agg #[.int .i64 0, .int .i64 5, .int .i64 0, .int .i64 0, .int .i64 (wrap64 (a0_6)), .int .i64 x3_1, .int .u32 a0_1, .int .u32 a0_2, .string (⟨#[]⟩ : ByteArray)], .string t207] (by rfl) rfl rfl (by (try simp only [List.map_toArray, List.map_cons, List.map_nil]); first | done | rfl | (simp only [Int.toNat_natCast]; first | done | rfl) | (rw [Int.toNat_natCast, ByteArray.extract_zero_size]; rfl) | (simp only [List.length_drop, List.length_take]; rfl)) ?_
    with_reducible refine (weighbridgeref04_Build.calls 0 5 0 0 (wrap64 (a0_6)) x3_1 a0_1 a0_2 (⟨#[]⟩ : ByteArray) t207 t208 t209 _ A7.out).mono ?_
    rintro e w20 ⟨rfl, hb⟩
    refine ⟨_, rfl, ?_⟩
    have n0_ := Aside0.mk (blkB BK206 hb)
    have n1_ := Aside0.mk (below_step (BW HB) hb)
    clear BK206
    clear HB
    have BK206 := n0_
    have HB := n1_
    clear n0_ n1_
    (try clear hb)
    (try clear hb2)
    (try clear hk)
    (try clear hi)
    refine hK.out _ _ ⟨(blk_cell BK206.out 0).trans rfl, (blk_cell BK206.out 1).trans rfl, (blk_cell BK206.out 2).trans rfl, (blk_cell BK206.out 3).trans rfl, (blk_cell BK206.out 4).trans rfl, (blk_cell BK206.out 5).trans rfl, (blk_cell BK206.out 6).trans rfl, (blk_cell BK206.out 7).trans rfl, (blk_cell BK206.out 8).trans rfl, (blk_cell BK206.out 9).trans rfl, (blk_cell BK206.out 10).trans rfl⟩ (fun hHeld => ?_)
    clear hK K
    refine norm_ (a' := ?_) ?_ ?_
    rotate_left
    ·show Act.put _ (some 28) _ = _
     simp only [Act.put, zpA, zpO, zpS, i64_w, i32_w]
     rfl
    refine pu 13 15 (bm 18 0x3fff) HT_ ?_
    refine pu 14 29 (bm 18 0x7fff) HT_ ?_
    refine pu 15 30 (bm 18 0xffff) HT_ ?_
    refine pu 16 4 (bm 18 0x1ffff) HT_ ?_
    refine pu 17 5 (bm 18 0x3ffff) HT_ ?_
    refine done_ (done_of HT_.out (by kernel_rfl)) ?_
    obtain ⟨hcz21_0, hcz21_1, hcz21_2, hcz21_3, hcz21_4, hcz21_5, hcz21_6, hcz21_7, hcz21_8, hcz21_9, hcz21_10, hfz21_0, hfz21_1, hfz21_2, hfz21_3, hfz21_4, hfz21_5, hfz21_6, hfz21_7, hfz21_8, hfz21_9, hfz21_10⟩ := blk11 BK206.out
    try go_wp2
    have n0_ := Aside0.mk (blk_drew BK206.out)
    have n1_ := Aside0.mk (below_drew1 HB.out)
    clear BK206
    clear HB
    have BK206 := n0_
    have HB := n1_
    clear n0_ n1_
    refine start_ (n := 14) (S := fun w' => w'.cell? ⟨gb206, 0, none⟩ = some (.int .u8 a0_0) ∧ w'.cell? ⟨gb206, 1, none⟩ = some (.int .u32 a0_1) ∧ w'.cell? ⟨gb206, 2, none⟩ = some (.int .u32 a0_2) ∧ w'.cell? ⟨gb206, 3, none⟩ = some (.int .u16 a0_3) ∧ w'.cell? ⟨gb206, 4, none⟩ = some (.int .u16 a0_4) ∧ w'.cell? ⟨gb206, 5, none⟩ = some (.int .u8 a0_5) ∧ w'.cell? ⟨gb206, 6, none⟩ = some (.int .u8 a0_6) ∧ w'.cell? ⟨gb206, 7, none⟩ = some (.string a0_7) ∧ w'.cell? ⟨gb206, 8, none⟩ = some (.bool true) ∧ w'.cell? ⟨gb206, 9, none⟩ = some (.int .u32 a0_9) ∧ w'.cell? ⟨gb206, 10, none⟩ = some (.int .u32 a0_10)) (ds := []) (bm 14 0x0) (by kernel_rfl) rfl rfl ⟨(blk_cell BK206.out 0).trans rfl, (blk_cell BK206.out 1).trans rfl, (blk_cell BK206.out 2).trans rfl, (blk_cell BK206.out 3).trans rfl, (blk_cell BK206.out 4).trans rfl, (blk_cell BK206.out 5).trans rfl, (blk_cell BK206.out 6).trans rfl, (blk_cell BK206.out 7).trans rfl, (blk_cell BK206.out 8).trans rfl, (blk_cell BK206.out 9).trans rfl, (blk_cell BK206.out 10).trans rfl⟩ (fun hHeld => ?_); refine with_tabW weighbridgelaw10_Make_frame_p.tab10 weighbridgelaw10_Make_frame_p.bits10 (fun HT_ HW_ => ?_)
    generalize w20.drew = w22 at BK206 HB hHeld ⊢
    refine pu 0 41 (bm 14 0x1) HT_ ?_
    refine pu 4 45 (bm 14 0x11) HT_ ?_
    refine pu 5 46 (bm 14 0x31) HT_ ?_
    refine pu 6 47 (bm 14 0x71) HT_ ?_
    refine tw11 1 42 (bm 14 0x73) HT_ HW_ hHeld ?_
    refine pu 2 43 (bm 14 0x77) HT_ ?_
    refine pu 3 44 (bm 14 0x7f) HT_ ?_
    refine pu 7 48 (bm 14 0xff) HT_ ?_
    refine one_ (i := 8) (N := some 49) (bm 14 0x1ff) rfl rfl (one_of HT_.out (by kernel_rfl)) (by decide) (fun K hK => ?_)
    refine goes_ Try.func19 (by kernel_rfl) rfl #[.agg #[.int .i64 3, .int .i64 (wrap64 (Int.tmod a0_5 6)), .int .u32 1400, .string (t208.extract 0 28)]] (by rfl) rfl rfl (by (try simp only [List.map_toArray, List.map_cons, List.map_nil]); first | done | rfl | (simp only [Int.toNat_natCast]; first | done | rfl) | (rw [Int.toNat_natCast, ByteArray.extract_zero_size]; rfl) | (simp only [List.length_drop, List.length_take]; rfl)) ?_
    with_reducible refine (weighbridgeref07_Build.calls 3 (wrap64 (Int.tmod a0_5 6)) 1400 (t208.extract 0 28) t210 t211 _ A16.out).mono ?_
    rintro e w23 ⟨rfl, hb⟩
    refine ⟨_, rfl, ?_⟩
    have n0_ := Aside0.mk (blkB BK206 hb)
    have n1_ := Aside0.mk (below_step (BW HB) hb)
    clear BK206
    clear HB
    have BK206 := n0_
    have HB := n1_
    clear n0_ n1_
    (try clear hb)
    (try clear hb2)
    (try clear hk)
    (try clear hi)
    refine hK.out _ _ ⟨(blk_cell BK206.out 0).trans rfl, (blk_cell BK206.out 1).trans rfl, (blk_cell BK206.out 2).trans rfl, (blk_cell BK206.out 3).trans rfl, (blk_cell BK206.out 4).trans rfl, (blk_cell BK206.out 5).trans rfl, (blk_cell BK206.out 6).trans rfl, (blk_cell BK206.out 7).trans rfl, (blk_cell BK206.out 8).trans rfl, (blk_cell BK206.out 9).trans rfl, (blk_cell BK206.out 10).trans rfl⟩ (fun hHeld => ?_)
    clear hK K
    refine norm_ (a' := ?_) ?_ ?_
    rotate_left
    ·show Act.put _ (some 49) _ = _
     simp only [Act.put, zpA, zpO, zpS, i64_w, i32_w]
     rfl
    refine pu 9 40 (bm 14 0x3ff) HT_ ?_
    refine pu 10 50 (bm 14 0x7ff) HT_ ?_
    refine pu 11 51 (bm 14 0xfff) HT_ ?_
    refine pu 12 7 (bm 14 0x1fff) HT_ ?_
    refine pu 13 8 (bm 14 0x3fff) HT_ ?_
    refine done_ (done_of HT_.out (by kernel_rfl)) ?_
    obtain ⟨hcz24_0, hcz24_1, hcz24_2, hcz24_3, hcz24_4, hcz24_5, hcz24_6, hcz24_7, hcz24_8, hcz24_9, hcz24_10, hfz24_0, hfz24_1, hfz24_2, hfz24_3, hfz24_4, hfz24_5, hfz24_6, hfz24_7, hfz24_8, hfz24_9, hfz24_10⟩ := blk11 BK206.out
    try go_wp2_with (first | ((with_reducible refine gate_callee (f := 17) rfl ?_); refine goesL_ (some 62) rfl rfl Try.func17 (by kernel_rfl) rfl #[.agg #[.int .i64 0, .int .i64 0, .int .i64 0, .int .i64 0, .int .i64 (wrap64 (a0_6)), .int .i64 1, .int .u32 a0_9, .int .u32 a0_10, .string (⟨#[]⟩ : ByteArray)], .string t210] rfl AG ?_; (with_reducible refine (weighbridgeref04_Build.calls 0 0 0 0 (wrap64 (a0_6)) 1 a0_9 a0_10 (⟨#[]⟩ : ByteArray) t210 t212 t213 _ A17.out).mono ?_); rintro e w25 ⟨rfl, hb⟩; (try clear A17); refine ⟨_, rfl, ?_⟩; have n0_ := Aside0.mk (blkB BK206 hb); have n1_ := Aside0.mk (below_step (BW HB) hb); clear BK206; clear HB; have BK206 := n0_; have HB := n1_; clear n0_ n1_; (try clear hb)))
    go_ret
    exact ⟨RT, BW HB⟩
   replace c13 := Bool.eq_false_iff.mpr c13
   subst c13
   have H1 : (if 0 ≤ (t208.size : Int) then (if (t208.size : Int) ≤ (t208.size : Int) then ((weighbridgeref07_Build.f 3 (wrap64 (Int.tmod a0_5 6)) 1400 (t208.extract 0 ((t208.size : Int) : Int).toNat)).bind fun bt214 => ((weighbridgeref04_Build.f 0 0 0 0 (wrap64 (a0_6)) 1 a0_9 a0_10 (⟨#[]⟩ : ByteArray) bt214.1).bind fun bt216 => (some bt216.1))) else (none)) else (none)) = some r := by rw [if_neg (show ¬ (false = true) by decide)] at H; exact H
   clear H
   have H := H1
   clear H1
   by_cases c26 : 0 ≤ (t208.size : Int)
   rotate_left
   ·rw [if_neg c26] at H
    exact absurd H (by simp)
   rw [if_pos c26] at H
   have c26b0 := eq_true c26
   have c26b1 : decide (0 ≤ (t208.size : Int)) = true := decide_eq_true c26
   clear c26
   by_cases c27 : (t208.size : Int) ≤ (t208.size : Int)
   rotate_left
   ·rw [if_neg c27] at H
    exact absurd H (by simp)
   rw [if_pos c27] at H
   have c27b0 := eq_true c27
   have c27b1 : decide ((t208.size : Int) ≤ (t208.size : Int)) = true := decide_eq_true c27
   clear c27
   replace H := Option.bind_eq_some_iff.mp H
   obtain ⟨⟨t214, t215⟩, A280, H⟩ := H
   (try set_option simprocs false in dsimp only at H)
   have A28 := Aside0.mk A280
   clear A280
   replace H := Option.bind_eq_some_iff.mp H
   obtain ⟨⟨t216, t217⟩, A290, H⟩ := H
   (try set_option simprocs false in dsimp only at H)
   have A29 := Aside0.mk A290
   clear A290
   obtain rfl := Option.some.inj H
   try go_wp2
   have n0_ := Aside0.mk (blk_drew BK206.out)
   have n1_ := Aside0.mk (below_drew1 HB.out)
   clear BK206
   clear HB
   have BK206 := n0_
   have HB := n1_
   clear n0_ n1_
   refine start_ (n := 18) (S := fun w' => w'.cell? ⟨gb206, 0, none⟩ = some (.int .u8 a0_0) ∧ w'.cell? ⟨gb206, 1, none⟩ = some (.int .u32 a0_1) ∧ w'.cell? ⟨gb206, 2, none⟩ = some (.int .u32 a0_2) ∧ w'.cell? ⟨gb206, 3, none⟩ = some (.int .u16 a0_3) ∧ w'.cell? ⟨gb206, 4, none⟩ = some (.int .u16 a0_4) ∧ w'.cell? ⟨gb206, 5, none⟩ = some (.int .u8 a0_5) ∧ w'.cell? ⟨gb206, 6, none⟩ = some (.int .u8 a0_6) ∧ w'.cell? ⟨gb206, 7, none⟩ = some (.string a0_7) ∧ w'.cell? ⟨gb206, 8, none⟩ = some (.bool false) ∧ w'.cell? ⟨gb206, 9, none⟩ = some (.int .u32 a0_9) ∧ w'.cell? ⟨gb206, 10, none⟩ = some (.int .u32 a0_10)) (ds := []) (bm 18 0x0) (by kernel_rfl) rfl rfl ⟨(blk_cell BK206.out 0).trans rfl, (blk_cell BK206.out 1).trans rfl, (blk_cell BK206.out 2).trans rfl, (blk_cell BK206.out 3).trans rfl, (blk_cell BK206.out 4).trans rfl, (blk_cell BK206.out 5).trans rfl, (blk_cell BK206.out 6).trans rfl, (blk_cell BK206.out 7).trans rfl, (blk_cell BK206.out 8).trans rfl, (blk_cell BK206.out 9).trans rfl, (blk_cell BK206.out 10).trans rfl⟩ (fun hHeld => ?_); refine with_tabW weighbridgelaw10_Make_frame_p.tab4 weighbridgelaw10_Make_frame_p.bits4 (fun HT_ HW_ => ?_)
   generalize wc.drew = w30 at BK206 HB hHeld ⊢
   refine pu 0 16 (bm 18 0x1) HT_ ?_
   refine pu 3 19 (bm 18 0x9) HT_ ?_
   refine pu 4 20 (bm 18 0x19) HT_ ?_
   refine pu 6 22 (bm 18 0x59) HT_ ?_
   refine pu 10 26 (bm 18 0x459) HT_ ?_
   refine tw11 1 17 (bm 18 0x45b) HT_ HW_ hHeld ?_
   refine pu 2 18 (bm 18 0x45f) HT_ ?_
   refine tw11 5 21 (bm 18 0x47f) HT_ HW_ hHeld ?_
   refine tw11 7 23 (bm 18 0x4ff) HT_ HW_ hHeld ?_
   refine pu 8 24 (bm 18 0x5ff) HT_ ?_
   refine tw11 9 25 (bm 18 0x7ff) HT_ HW_ hHeld ?_
   refine one_ (i := 11) (N := some 27) (bm 18 0xfff) rfl rfl (one_of HT_.out (by kernel_rfl)) (by decide) (fun K hK => ?_)
   refine goes_ Try.func18 (by kernel_rfl) rfl #[.agg #[.int .u8 a0_0, .int .u32 a0_1, .int .u32 a0_2, .int .u16 a0_3, .int .u16 a0_4, .int .u8 a0_5, .int .u8 a0_6, .string a0_7, .bool false, .int .u32 a0_9, .int .u32 a0_10], .int .i64 x3_1] (by rfl) rfl rfl (by (try simp only [List.map_toArray, List.map_cons, List.map_nil]); first | done | rfl | (simp only [Int.toNat_natCast]; first | done | rfl) | (rw [Int.toNat_natCast, ByteArray.extract_zero_size]; rfl) | (simp only [List.length_drop, List.length_take]; rfl)) ?_
   with_reducible refine (weighbridgelaw10_segment.calls a0_0 a0_1 a0_2 a0_3 a0_4 a0_5 a0_6 a0_7 false a0_9 a0_10 x3_1 t207 _ A6.out).mono ?_
   rintro e w31 ⟨rfl, hb⟩
   refine ⟨_, rfl, ?_⟩
   have n0_ := Aside0.mk (blkB BK206 hb)
   have n1_ := Aside0.mk (below_step (BW HB) hb)
   clear BK206
   clear HB
   have BK206 := n0_
   have HB := n1_
   clear n0_ n1_
   (try clear hb)
   (try clear hb2)
   (try clear hk)
   (try clear hi)
   refine hK.out _ _ ⟨(blk_cell BK206.out 0).trans rfl, (blk_cell BK206.out 1).trans rfl, (blk_cell BK206.out 2).trans rfl, (blk_cell BK206.out 3).trans rfl, (blk_cell BK206.out 4).trans rfl, (blk_cell BK206.out 5).trans rfl, (blk_cell BK206.out 6).trans rfl, (blk_cell BK206.out 7).trans rfl, (blk_cell BK206.out 8).trans rfl, (blk_cell BK206.out 9).trans rfl, (blk_cell BK206.out 10).trans rfl⟩ (fun hHeld => ?_)
   clear hK K
   refine norm_ (a' := ?_) ?_ ?_
   rotate_left
   ·show Act.put _ (some 27) _ = _
    simp only [Act.put, zpA, zpO, zpS, i64_w, i32_w]
    rfl
   refine one_ (i := 12) (N := some 28) (bm 18 0x1fff) rfl rfl (one_of HT_.out (by kernel_rfl)) (by decide) (fun K hK => ?_)
   refine goes_ Try.func17 (by kernel_rfl) rfl #[.agg #[.int .i64 0, .int .i64 5, .int .i64 0, .int .i64 0, .int .i64 (wrap64 (a0_6)), .int .i64 x3_1, .int .u32 a0_1, .int .u32 a0_2, .string (⟨#[]⟩ : ByteArray)], .string t207] (by rfl) rfl rfl (by (try simp only [List.map_toArray, List.map_cons, List.map_nil]); first | done | rfl | (simp only [Int.toNat_natCast]; first | done | rfl) | (rw [Int.toNat_natCast, ByteArray.extract_zero_size]; rfl) | (simp only [List.length_drop, List.length_take]; rfl)) ?_
   with_reducible refine (weighbridgeref04_Build.calls 0 5 0 0 (wrap64 (a0_6)) x3_1 a0_1 a0_2 (⟨#[]⟩ : ByteArray) t207 t208 t209 _ A7.out).mono ?_
   rintro e w32 ⟨rfl, hb⟩
   refine ⟨_, rfl, ?_⟩
   have n0_ := Aside0.mk (blkB BK206 hb)
   have n1_ := Aside0.mk (below_step (BW HB) hb)
   clear BK206
   clear HB
   have BK206 := n0_
   have HB := n1_
   clear n0_ n1_
   (try clear hb)
   (try clear hb2)
   (try clear hk)
   (try clear hi)
   refine hK.out _ _ ⟨(blk_cell BK206.out 0).trans rfl, (blk_cell BK206.out 1).trans rfl, (blk_cell BK206.out 2).trans rfl, (blk_cell BK206.out 3).trans rfl, (blk_cell BK206.out 4).trans rfl, (blk_cell BK206.out 5).trans rfl, (blk_cell BK206.out 6).trans rfl, (blk_cell BK206.out 7).trans rfl, (blk_cell BK206.out 8).trans rfl, (blk_cell BK206.out 9).trans rfl, (blk_cell BK206.out 10).trans rfl⟩ (fun hHeld => ?_)
   clear hK K
   refine norm_ (a' := ?_) ?_ ?_
   rotate_left
   ·show Act.put _ (some 28) _ = _
    simp only [Act.put, zpA, zpO, zpS, i64_w, i32_w]
    rfl
   refine pu 13 15 (bm 18 0x3fff) HT_ ?_
   refine pu 14 29 (bm 18 0x7fff) HT_ ?_
   refine pu 15 30 (bm 18 0xffff) HT_ ?_
   refine pu 16 4 (bm 18 0x1ffff) HT_ ?_
   refine pu 17 5 (bm 18 0x3ffff) HT_ ?_
   refine done_ (done_of HT_.out (by kernel_rfl)) ?_
   obtain ⟨hcz33_0, hcz33_1, hcz33_2, hcz33_3, hcz33_4, hcz33_5, hcz33_6, hcz33_7, hcz33_8, hcz33_9, hcz33_10, hfz33_0, hfz33_1, hfz33_2, hfz33_3, hfz33_4, hfz33_5, hfz33_6, hfz33_7, hfz33_8, hfz33_9, hfz33_10⟩ := blk11 BK206.out
   try go_wp2
   have n0_ := Aside0.mk (blk_drew BK206.out)
   have n1_ := Aside0.mk (below_drew1 HB.out)
   clear BK206
   clear HB
   have BK206 := n0_
   have HB := n1_
   clear n0_ n1_
   refine start_ (n := 14) (S := fun w' => w'.cell? ⟨gb206, 0, none⟩ = some (.int .u8 a0_0) ∧ w'.cell? ⟨gb206, 1, none⟩ = some (.int .u32 a0_1) ∧ w'.cell? ⟨gb206, 2, none⟩ = some (.int .u32 a0_2) ∧ w'.cell? ⟨gb206, 3, none⟩ = some (.int .u16 a0_3) ∧ w'.cell? ⟨gb206, 4, none⟩ = some (.int .u16 a0_4) ∧ w'.cell? ⟨gb206, 5, none⟩ = some (.int .u8 a0_5) ∧ w'.cell? ⟨gb206, 6, none⟩ = some (.int .u8 a0_6) ∧ w'.cell? ⟨gb206, 7, none⟩ = some (.string a0_7) ∧ w'.cell? ⟨gb206, 8, none⟩ = some (.bool false) ∧ w'.cell? ⟨gb206, 9, none⟩ = some (.int .u32 a0_9) ∧ w'.cell? ⟨gb206, 10, none⟩ = some (.int .u32 a0_10)) (ds := []) (bm 14 0x0) (by kernel_rfl) rfl rfl ⟨(blk_cell BK206.out 0).trans rfl, (blk_cell BK206.out 1).trans rfl, (blk_cell BK206.out 2).trans rfl, (blk_cell BK206.out 3).trans rfl, (blk_cell BK206.out 4).trans rfl, (blk_cell BK206.out 5).trans rfl, (blk_cell BK206.out 6).trans rfl, (blk_cell BK206.out 7).trans rfl, (blk_cell BK206.out 8).trans rfl, (blk_cell BK206.out 9).trans rfl, (blk_cell BK206.out 10).trans rfl⟩ (fun hHeld => ?_); refine with_tabW weighbridgelaw10_Make_frame_p.tab10 weighbridgelaw10_Make_frame_p.bits10 (fun HT_ HW_ => ?_)
   generalize w32.drew = w34 at BK206 HB hHeld ⊢
   refine pu 0 41 (bm 14 0x1) HT_ ?_
   refine pu 4 45 (bm 14 0x11) HT_ ?_
   refine pu 5 46 (bm 14 0x31) HT_ ?_
   refine pu 6 47 (bm 14 0x71) HT_ ?_
   refine tw11 1 42 (bm 14 0x73) HT_ HW_ hHeld ?_
   refine pu 2 43 (bm 14 0x77) HT_ ?_
   refine pu 3 44 (bm 14 0x7f) HT_ ?_
   refine pu 7 48 (bm 14 0xff) HT_ ?_
   refine one_ (i := 8) (N := some 49) (bm 14 0x1ff) rfl rfl (one_of HT_.out (by kernel_rfl)) (by decide) (fun K hK => ?_)
   refine goes_ Try.func19 (by kernel_rfl) rfl #[.agg #[.int .i64 3, .int .i64 (wrap64 (Int.tmod a0_5 6)), .int .u32 1400, .string (t208.extract 0 ((t208.size : Int) : Int).toNat)]] (by rfl) rfl rfl (by (try simp only [List.map_toArray, List.map_cons, List.map_nil]); first | done | rfl | (simp only [Int.toNat_natCast]; first | done | rfl) | (rw [Int.toNat_natCast, ByteArray.extract_zero_size]; rfl) | (simp only [List.length_drop, List.length_take]; rfl)) ?_
   with_reducible refine (weighbridgeref07_Build.calls 3 (wrap64 (Int.tmod a0_5 6)) 1400 (t208.extract 0 ((t208.size : Int) : Int).toNat) t214 t215 _ A28.out).mono ?_
   rintro e w35 ⟨rfl, hb⟩
   refine ⟨_, rfl, ?_⟩
   have n0_ := Aside0.mk (blkB BK206 hb)
   have n1_ := Aside0.mk (below_step (BW HB) hb)
   clear BK206
   clear HB
   have BK206 := n0_
   have HB := n1_
   clear n0_ n1_
   (try clear hb)
   (try clear hb2)
   (try clear hk)
   (try clear hi)
   refine hK.out _ _ ⟨(blk_cell BK206.out 0).trans rfl, (blk_cell BK206.out 1).trans rfl, (blk_cell BK206.out 2).trans rfl, (blk_cell BK206.out 3).trans rfl, (blk_cell BK206.out 4).trans rfl, (blk_cell BK206.out 5).trans rfl, (blk_cell BK206.out 6).trans rfl, (blk_cell BK206.out 7).trans rfl, (blk_cell BK206.out 8).trans rfl, (blk_cell BK206.out 9).trans rfl, (blk_cell BK206.out 10).trans rfl⟩ (fun hHeld => ?_)
   clear hK K
   refine norm_ (a' := ?_) ?_ ?_
   rotate_left
   ·show Act.put _ (some 49) _ = _
    simp only [Act.put, zpA, zpO, zpS, i64_w, i32_w]
    rfl
   refine pu 9 40 (bm 14 0x3ff) HT_ ?_
   refine pu 10 50 (bm 14 0x7ff) HT_ ?_
   refine pu 11 51 (bm 14 0xfff) HT_ ?_
   refine pu 12 7 (bm 14 0x1fff) HT_ ?_
   refine pu 13 8 (bm 14 0x3fff) HT_ ?_
   refine done_ (done_of HT_.out (by kernel_rfl)) ?_
   obtain ⟨hcz36_0, hcz36_1, hcz36_2, hcz36_3, hcz36_4, hcz36_5, hcz36_6, hcz36_7, hcz36_8, hcz36_9, hcz36_10, hfz36_0, hfz36_1, hfz36_2, hfz36_3, hfz36_4, hfz36_5, hfz36_6, hfz36_7, hfz36_8, hfz36_9, hfz36_10⟩ := blk11 BK206.out
   try go_wp2_with (first | ((with_reducible refine gate_callee (f := 17) rfl ?_); refine goesL_ (some 62) rfl rfl Try.func17 (by kernel_rfl) rfl #[.agg #[.int .i64 0, .int .i64 0, .int .i64 0, .int .i64 0, .int .i64 (wrap64 (a0_6)), .int .i64 1, .int .u32 a0_9, .int .u32 a0_10, .string (⟨#[]⟩ : ByteArray)], .string t214] rfl AG ?_; (with_reducible refine (weighbridgeref04_Build.calls 0 0 0 0 (wrap64 (a0_6)) 1 a0_9 a0_10 (⟨#[]⟩ : ByteArray) t214 t216 t217 _ A29.out).mono ?_); rintro e w37 ⟨rfl, hb⟩; (try clear A29); refine ⟨_, rfl, ?_⟩; have n0_ := Aside0.mk (blkB BK206 hb); have n1_ := Aside0.mk (below_step (BW HB) hb); clear BK206; clear HB; have BK206 := n0_; have HB := n1_; clear n0_ n1_; (try clear hb)))
   go_ret
   exact ⟨RT, BW HB⟩

theorem l10_fill6 {x y : Int} {s : List UInt8} (hx : 0 ≤ x ∧ x ≤ 4294967295) (hy : 0 ≤ y ∧ y ≤ 4294967295) (h : 18 ≤ s.length) : (Sp.pfill 6 x y s).1.length = s.length := by
 have hh : Sp.has s 16 2 = true := Sp.has_iff.2 ⟨by decide, by decide, by decide, by omega⟩
 have f : (Sp.zeroed 6 s).2 = true := by
  unfold Sp.zeroed Sp.cov
  rw [if_neg (fun h => absurd h.1 (by decide))]
  show (Sp.set s 16 2 0).2 = true
  rw [Sp.set_yes (by decide) hh]
 have hc : Sp.pcheck 6 x y s = (Sp.pnum 6 x y (Sp.zeroed 6 s).1, true) := by unfold Sp.pcheck; rw [if_pos ⟨rfl, f⟩]
 have hn := Sp.pnum_bounds (p := 6) (s := (Sp.zeroed 6 s).1) rfl hx hy
 unfold Sp.pfill
 rw [hc, if_pos rfl]
 exact Sp.set_length s 16 2 _ (by rw [Sp.set_yes (Sp.fits2.2 ⟨hn.1, hn.2⟩) hh])
theorem l10_ip {a b c d e f x y : Int} {t : List UInt8} : (Sp.ip4Build a b c d e f x y [] t).1.length ≤ 1500 := by
 unfold Sp.ip4Build
 split
 ·split
  ·exact Nat.zero_le _
  show (Sp.ip4Full a b c d e f x y [] _ ++ t).length ≤ 1500
  rw [List.length_append, Sp.ip4Full_length]
  simp only [List.length_nil] at *; omega
 exact Nat.zero_le _
theorem l10_icmp {a b c : Int} {t : List UInt8} : (Sp.icmpBuild a b c t).1.length ≤ 1500 := by
 unfold Sp.icmpBuild
 split
 case isTrue h =>
  split
  ·exact Nat.zero_le _
  show (Sp.icmpBytes a b c t _).1.length ≤ 1500
  rw [Sp.icmpBytes_length h]; omega
 case isFalse => exact Nat.zero_le _
theorem l10_seg {p x y a b e : Int} {z : Bool} {t : List UInt8} (hp : p = 6 ∨ p = 17) (hx : 0 ≤ x ∧ x ≤ 4294967295) (hy : 0 ≤ y ∧ y ≤ 4294967295) (ha : 0 ≤ a ∧ a ≤ 65535) (hb : 0 ≤ b ∧ b ≤ 65535) (he : 0 ≤ e) : (Sp.segment p x y a b e z t).length ≤ 60 ∧ (z = true → 8 ≤ (Sp.segment p x y a b e z t).length) := by
 have hl : (t.take 40).length ≤ 40 := by rw [List.length_take]; omega
 unfold Sp.segment
 by_cases h6 : p = 6
 ·subst h6
  rw [if_pos rfl]
  have ht : (Sp.tcpBuild a b 7 0 (e % 64) 9 0 [] (t.take 40)).1.length = 20 + (t.take 40).length := by
   have R : Sp.tcpRight a b (e % 64) 9 0 [] = true := Sp.tcpRight_iff.2 ⟨Sp.fits2.2 ha, Sp.fits2.2 hb, by decide, by decide, ⟨by omega, by omega⟩, by decide, rfl⟩
   unfold Sp.tcpBuild
   rw [if_pos R, if_neg (by simp only [List.length_nil]; omega)]
   simp
  rw [l10_fill6 hx hy (by omega)]
  exact ⟨by omega, fun _ => by omega⟩
 rw [if_neg h6]
 have hu : (Sp.udpBuild a b (t.take 40)).1.length = 8 + (t.take 40).length := by rw [Sp.udpBuild_ok (Sp.fits2.2 ha) (Sp.fits2.2 hb) (by omega), List.length_append, Sp.udpHead_length]
 by_cases hz : z = true
 ·rw [if_pos hz]; exact ⟨by omega, fun _ => by omega⟩
 rw [if_neg hz]; exact ⟨by have := l10_fill p x y (Sp.udpBuild a b (t.take 40)).1; omega, fun h => absurd h hz⟩
theorem l10_inner {k x y a b e tt : Int} {z : Bool} {t : List UInt8} (hx : 0 ≤ x ∧ x ≤ 4294967295) (hy : 0 ≤ y ∧ y ≤ 4294967295) (ha : 0 ≤ a ∧ a ≤ 65535) (hb : 0 ≤ b ∧ b ≤ 65535) (he : 0 ≤ e) (ht : 0 ≤ tt ∧ tt ≤ 255) : z = true → 28 ≤ (Sp.inner k x y a b e tt t z).length := by
 intro hz
 have hp : Sp.protoOf k = 6 ∨ Sp.protoOf k = 17 := by unfold Sp.protoOf; split <;> simp
 obtain ⟨s1, s2⟩ := l10_seg (z := z) (t := t) hp hx hy ha hb he
 have s3 := s2 hz
 unfold Sp.inner
 generalize Sp.segment (Sp.protoOf k) x y a b e z t = q at *
 have R : Sp.ip4Right 0 5 0 0 tt (Sp.protoOf k) [] = true := Sp.ip4Right_iff.2 ⟨by decide, by decide, by decide, by decide, ht, by omega, by decide, rfl⟩
 unfold Sp.ip4Build
 rw [if_pos R, if_neg (by simp only [List.length_nil]; omega)]
 show 28 ≤ (Sp.ip4Full _ _ _ _ _ _ _ _ [] _ ++ q).length
 rw [List.length_append, Sp.ip4Full_length]; simp only [List.length_nil]; omega
def weighbridgelaw10_Make_frame.f (a0_0 a0_1 a0_2 a0_3 a0_4 a0_5 a0_6 : Int) (a0_7 : ByteArray) (a0_8 : Bool) (a0_9 a0_10 : Int) : Option ByteArray := if l10Dom a0_0 a0_1 a0_2 a0_3 a0_4 a0_5 a0_6 a0_9 a0_10 a0_7 = true then some (lb (Sp.frame a0_0 a0_1 a0_2 a0_3 a0_4 a0_5 a0_6 (bl a0_7) a0_8 a0_9 a0_10)) else none
theorem weighbridgelaw10_Make_frame_eq {a0_0 a0_1 a0_2 a0_3 a0_4 a0_5 a0_6 : Int} {a0_7 : ByteArray} {a0_8 : Bool} {a0_9 a0_10 : Int} (h0 : 0 ≤ a0_0 ∧ a0_0 ≤ 255) (h1 : 0 ≤ a0_1 ∧ a0_1 ≤ 4294967295) (h2 : 0 ≤ a0_2 ∧ a0_2 ≤ 4294967295) (h3 : 0 ≤ a0_3 ∧ a0_3 ≤ 65535) (h4 : 0 ≤ a0_4 ∧ a0_4 ≤ 65535) (h5 : 0 ≤ a0_5 ∧ a0_5 ≤ 255) (h6 : 0 ≤ a0_6 ∧ a0_6 ≤ 255) (h7 : a0_7.size ≤ 140737488355328) (h9 : 0 ≤ a0_9 ∧ a0_9 ≤ 4294967295) (h10 : 0 ≤ a0_10 ∧ a0_10 ≤ 4294967295) :
  weighbridgelaw10_Make_frame.f a0_0 a0_1 a0_2 a0_3 a0_4 a0_5 a0_6 a0_7 a0_8 a0_9 a0_10 = some (lb (Sp.frame a0_0 a0_1 a0_2 a0_3 a0_4 a0_5 a0_6 (bl a0_7) a0_8 a0_9 a0_10)) := by
 unfold weighbridgelaw10_Make_frame.f; exact if_pos (l10Dom_iff.2 ⟨h0, h1, h2, h3, h4, h5, h6, h9, h10, h7⟩)
theorem weighbridgelaw10_Make_frame_ev (a0_0 a0_1 a0_2 a0_3 a0_4 a0_5 a0_6 : Int) (a0_7 : ByteArray) (a0_8 : Bool) (a0_9 a0_10 : Int) (r : ByteArray) (h : weighbridgelaw10_Make_frame.f a0_0 a0_1 a0_2 a0_3 a0_4 a0_5 a0_6 a0_7 a0_8 a0_9 a0_10 = some r) : ∃ k, weighbridgelaw10_Make_frame_p.f k a0_0 a0_1 a0_2 a0_3 a0_4 a0_5 a0_6 a0_7 a0_8 a0_9 a0_10 = some r := by
 unfold weighbridgelaw10_Make_frame.f at h
 split at h
 case isFalse => cases h
 case isTrue hd =>
  rw [← h]
  obtain ⟨h0, h1, h2, h3, h4, h5, h6, h9, h10, h7⟩ := l10Dom_iff.1 hd
  refine ⟨1, ?_⟩
  have J : ∀ p : Int, p = Sp.protoOf a0_0 → weighbridgelaw10_Make_frame_p.j0 1 p a0_0 a0_1 a0_2 a0_3 a0_4 a0_5 a0_6 a0_7 a0_8 a0_9 a0_10 = some (lb (Sp.frame a0_0 a0_1 a0_2 a0_3 a0_4 a0_5 a0_6 (bl a0_7) a0_8 a0_9 a0_10)) := by
   intro p hpe
   have hp : p = 6 ∨ p = 17 := by rw [hpe]; unfold Sp.protoOf; split <;> simp
   obtain ⟨s1, s2⟩ := l10_seg (z := a0_8) (t := bl a0_7) hp h1 h2 h3 h4 h5.1
   have hin := l10_inner (k := a0_0) (z := a0_8) (t := bl a0_7) h1 h2 h3 h4 h5.1 h6
   unfold Sp.frame Sp.about
   unfold Sp.inner at *
   rw [← hpe] at *
   have hI := l10_ip (a := 0) (b := 5) (c := 0) (d := 0) (e := a0_6) (f := p) (x := a0_1) (y := a0_2) (t := Sp.segment p a0_1 a0_2 a0_3 a0_4 a0_5 a0_8 (bl a0_7))
   rw [weighbridgelaw10_Make_frame_p.j0, show weighbridgelaw10_segment.f a0_0 a0_1 a0_2 a0_3 a0_4 a0_5 a0_6 a0_7 a0_8 a0_9 a0_10 p = some (lb (Sp.segment p a0_1 a0_2 a0_3 a0_4 a0_5 a0_8 (bl a0_7))) from if_pos ⟨hd, hp⟩, Option.bind_some, wrap_id (n := a0_6) (by omega) (by omega), weighbridgeref04_Build_eq h1 h2 (by decide) (by rw [lb_size]; omega), Option.bind_some, bl_lb, Int.tmod_eq_emod_of_nonneg h0.1]
   simp only [show bl (⟨#[]⟩ : ByteArray) = [] from rfl]
   generalize (Sp.ip4Build 0 5 0 0 a0_6 p a0_1 a0_2 [] (Sp.segment p a0_1 a0_2 a0_3 a0_4 a0_5 a0_8 (bl a0_7))).1 = q at *
   by_cases h4 : a0_0 % 4 < 2
   ·rw [if_pos h4, if_pos h4]
   ·rw [if_neg h4, if_neg h4, Int.tmod_eq_emod_of_nonneg h5.1, wrap_id (n := a0_5 % 6) (by omega) (by omega)]
    have K : ∀ u : List UInt8, u.length ≤ 1500 → ((weighbridgeref07_Build.f 3 (a0_5 % 6) 1400 (lb u)).bind fun b => ((weighbridgeref04_Build.f 0 0 0 0 a0_6 1 a0_9 a0_10 (⟨#[]⟩ : ByteArray) b.1).bind fun c => some c.1)) = some (lb (Sp.ip4Build 0 0 0 0 a0_6 1 a0_9 a0_10 [] (Sp.icmpBuild 3 (a0_5 % 6) 1400 u).1).1) := by
     intro u hu
     have hC := l10_icmp (a := 3) (b := a0_5 % 6) (c := 1400) (t := u)
     rw [weighbridgeref07_Build_eq (by decide) (by rw [lb_size]; omega), Option.bind_some, bl_lb]
     simp only
     rw [weighbridgeref04_Build_eq h9 h10 (by decide) (by rw [lb_size]; omega), Option.bind_some, bl_lb]
     rfl
    by_cases hz : a0_8 = true
    ·have h28 := hin hz
     rw [if_pos hz, if_pos hz, if_pos (by decide), if_pos (by rw [lb_size]; omega), show (lb q).extract 0 28 = lb (q.take 28) from Sp.bl_inj (by rw [Sp.bl_extract, Sp.bl_lb, Sp.bl_lb, List.drop_zero])]
     exact K _ (by rw [List.length_take]; omega)
    ·rw [if_neg hz, if_neg hz, if_pos (by omega), if_pos (by omega), show (lb q).extract 0 (((lb q).size : Int)).toNat = lb q from Sp.bl_inj (by rw [Sp.bl_extract, Sp.bl_lb, List.drop_zero, List.take_of_length_le (by rw [lb_size]; omega)])]
     exact K _ hI
  unfold weighbridgelaw10_Make_frame_p.f
  rw [Int.tmod_eq_emod_of_nonneg h0.1]
  by_cases hk : a0_0 % 2 = 1
  ·rw [if_pos hk]; exact J 17 (by unfold Sp.protoOf; rw [if_pos hk])
  rw [if_neg hk]; exact J 6 (by unfold Sp.protoOf; rw [if_neg hk])
theorem weighbridgelaw10_Make_frame.calls (a0_0 : Int) (a0_1 : Int) (a0_2 : Int) (a0_3 : Int) (a0_4 : Int) (a0_5 : Int) (a0_6 : Int) (a0_7 : ByteArray) (a0_8 : Bool) (a0_9 : Int) (a0_10 : Int) (r : ByteArray) (w : World) (h : weighbridgelaw10_Make_frame.f a0_0 a0_1 a0_2 a0_3 a0_4 a0_5 a0_6 a0_7 a0_8 a0_9 a0_10 = some r) :
  Calls Try.prog 11 #[.agg #[.int .u8 a0_0, .int .u32 a0_1, .int .u32 a0_2, .int .u16 a0_3, .int .u16 a0_4, .int .u8 a0_5, .int .u8 a0_6, .string a0_7, .bool a0_8, .int .u32 a0_9, .int .u32 a0_10]] w fun e w' => e = .returned (.string r) ∧ Below w.heap.size w w' := by
 obtain ⟨k, hk⟩ := weighbridgelaw10_Make_frame_ev a0_0 a0_1 a0_2 a0_3 a0_4 a0_5 a0_6 a0_7 a0_8 a0_9 a0_10 _ h
 exact weighbridgelaw10_Make_frame_p.calls k a0_0 a0_1 a0_2 a0_3 a0_4 a0_5 a0_6 a0_7 a0_8 a0_9 a0_10 r w hk

/-! ### weighbridgelaw10_examples_p: function 9 -/
def weighbridgelaw10_examples_p.f  : Option (Bool) := (weighbridgelaw10_Make_frame.f 0 1 2 3 4 0 9 (⟨#[]⟩ : ByteArray) false 0 0).bind fun t294 => ((patch_Plain.f t294 5 6 7 8).bind fun bt295 => ((patch_Plain.f (⟨#[]⟩ : ByteArray) 0 0 0 0).bind fun bt297 => ((weighbridgelaw10_Make_frame.f 0 1 2 3 4 0 1 (⟨#[]⟩ : ByteArray) false 0 0).bind fun t299 => ((patch_Plain.f t299 0 0 0 0).bind fun bt300 => ((weighbridgelaw10_Make_frame.f 0 5 6 7 8 0 8 (⟨#[]⟩ : ByteArray) false 0 0).bind fun t302 => (if bt295.1.toList = t302.toList then (if bt295.2 = 0 then (if bt297.2 = 2 then (some (bt300.2 == 11)) else (some false)) else (some false)) else (some false)))))))
set_option maxHeartbeats 8000000 in
set_option maxRecDepth 100000 in
theorem weighbridgelaw10_examples_p.calls  (r : Bool) (w : World) (h : weighbridgelaw10_examples_p.f  = some r) (hr_ : r = true) :
  Calls Try.prog 9 #[] w fun e w' => e = .returned (.bool r) ∧ Below w.heap.size w w' := by
 have hu25 := Try.underlying25
 have hu27 := Try.underlying27
 have HB := Aside0.mk (Below.refl w.heap.size w)
 have H : ((weighbridgelaw10_Make_frame.f 0 1 2 3 4 0 9 (⟨#[]⟩ : ByteArray) false 0 0).bind fun t294 => ((patch_Plain.f t294 5 6 7 8).bind fun bt295 => ((patch_Plain.f (⟨#[]⟩ : ByteArray) 0 0 0 0).bind fun bt297 => ((weighbridgelaw10_Make_frame.f 0 1 2 3 4 0 1 (⟨#[]⟩ : ByteArray) false 0 0).bind fun t299 => ((patch_Plain.f t299 0 0 0 0).bind fun bt300 => ((weighbridgelaw10_Make_frame.f 0 5 6 7 8 0 8 (⟨#[]⟩ : ByteArray) false 0 0).bind fun t302 => (if bt295.1.toList = t302.toList then (if bt295.2 = 0 then (if bt297.2 = 2 then (some (bt300.2 == 11)) else (some false)) else (some false)) else (some false)))))))) = some r := h
 clear h
 replace H := Option.bind_eq_some_iff.mp H
 obtain ⟨t294, A10, H⟩ := H
 (try set_option simprocs false in dsimp only at H)
 have A1 := Aside0.mk A10
 clear A10
 replace H := Option.bind_eq_some_iff.mp H
 obtain ⟨⟨t295, t296⟩, A20, H⟩ := H
 (try set_option simprocs false in dsimp only at H)
 have A2 := Aside0.mk A20
 clear A20
 replace H := Option.bind_eq_some_iff.mp H
 obtain ⟨⟨t297, t298⟩, A30, H⟩ := H
 (try set_option simprocs false in dsimp only at H)
 have A3 := Aside0.mk A30
 clear A30
 replace H := Option.bind_eq_some_iff.mp H
 obtain ⟨t299, A40, H⟩ := H
 (try set_option simprocs false in dsimp only at H)
 have A4 := Aside0.mk A40
 clear A40
 replace H := Option.bind_eq_some_iff.mp H
 obtain ⟨⟨t300, t301⟩, A50, H⟩ := H
 (try set_option simprocs false in dsimp only at H)
 have A5 := Aside0.mk A50
 clear A50
 replace H := Option.bind_eq_some_iff.mp H
 obtain ⟨t302, A60, H⟩ := H
 (try set_option simprocs false in dsimp only at H)
 have A6 := Aside0.mk A60
 clear A60
 by_cases c7 : t295.toList = t302.toList
 rotate_left
 ·rw [if_neg c7] at H
  have c7b0 : (t295.toList == t302.toList) = false := beq_eq_false_iff_ne.mpr c7
  have c7b1 : (t295.toList != t302.toList) = true := bne_iff_ne.mpr c7
  exact absurd ((Option.some.inj H).trans hr_) (by decide)
 rw [if_pos c7] at H
 have c7b0 : (t295.toList == t302.toList) = true := beq_iff_eq.mpr c7
 have c7b1 : (t295.toList != t302.toList) = false := bne_eq_false_iff_eq.mpr c7
 clear c7
 by_cases c8 : t296 = 0
 ·rw [if_pos c8] at H
  have c8b0 : (t296 == 0) = true := beq_iff_eq.mpr c8
  have c8b1 : (t296 != 0) = false := bne_eq_false_iff_eq.mpr c8
  clear c8
  by_cases c9 : t298 = 2
  ·rw [if_pos c9] at H
   have c9b0 : (t298 == 2) = true := beq_iff_eq.mpr c9
   have c9b1 : (t298 != 2) = false := bne_eq_false_iff_eq.mpr c9
   clear c9
   obtain rfl := Option.some.inj H
   go_enter Try.func9, Try.ntmps9
   go_wp2_with (first | ((with_reducible refine gate_dst (N := 1) rfl ?_); refine box_event ?hg (N := 1) ?hd (cs := (r11 0 0 0 0 0 0 0 (⟨#[]⟩ : ByteArray) false 0 0)) (t := 25) ?hr ?_; (case hd => rfl); (case hg => rfl); (case hr => first | (go_simp; done) | (go_simp; rfl)); intro gb292 hg w10 hbox hb; have n0_ := Aside0.mk (below_step (BW HB) hb); have n1_ := Aside0.mk (hbox); have n2_ := Aside0.mk ((by rw [hg]; exact (below_size (BW HB)) : w.heap.size ≤ gb292)); have n3_ := Aside0.mk ((by rw [hg]; exact (below_size (BW HB)) : w.heap.size ≤ gb292)); clear HB; have HB := n0_; have BK292 := n1_; have GW292 := n2_; have GE292 := n3_; clear n0_ n1_ n2_ n3_; clear hb hbox hg; obtain ⟨hcz11_0, hcz11_1, hcz11_2, hcz11_3, hcz11_4, hcz11_5, hcz11_6, hcz11_7, hcz11_8, hcz11_9, hcz11_10, hfz11_0, hfz11_1, hfz11_2, hfz11_3, hfz11_4, hfz11_5, hfz11_6, hfz11_7, hfz11_8, hfz11_9, hfz11_10⟩ := blk11 BK292.out) | ((with_reducible refine gate_dst (N := 2) rfl ?_); refine box_event ?hg (N := 2) ?hd (cs := (r11 0 0 0 0 0 0 0 (⟨#[]⟩ : ByteArray) false 0 0)) (t := 25) ?hr ?_; (case hd => rfl); (case hg => rfl); (case hr => first | (go_simp; done) | (go_simp; rfl)); intro gb293 hg w12 hbox hb; have n0_ := Aside0.mk (blk_below (g := gb292) (o := .cells (r11 0 1 2 3 4 0 9 (⟨#[]⟩ : ByteArray) false 0 0) 25 (0, 0)) (BE BK292) hb); have n1_ := Aside0.mk (below_step (BW HB) hb); have n2_ := Aside0.mk (hbox); have n3_ := Aside0.mk ((by rw [hg]; exact (below_size (BW HB)) : w.heap.size ≤ gb293)); have n4_ := Aside0.mk ((by rw [hg]; exact (below_size (BW HB)) : w.heap.size ≤ gb293)); have n5_ := Aside0.mk ((by rw [hg]; exact Nat.ne_of_lt (blk_lt (g := gb292) (o := .cells (r11 0 1 2 3 4 0 9 (⟨#[]⟩ : ByteArray) false 0 0) 25 (0, 0)) (BE BK292)) : gb292 ≠ gb293)); have n6_ := Aside0.mk ((by rw [hg]; exact Nat.ne_of_gt (blk_lt (g := gb292) (o := .cells (r11 0 1 2 3 4 0 9 (⟨#[]⟩ : ByteArray) false 0 0) 25 (0, 0)) (BE BK292)) : gb293 ≠ gb292)); clear BK292; clear HB; have BK292 := n0_; have HB := n1_; have BK293 := n2_; have GW293 := n3_; have GE293 := n4_; have NB292_293 := n5_; have NB293_292 := n6_; clear n0_ n1_ n2_ n3_ n4_ n5_ n6_; clear hb hbox hg; have hnb13 := NB293_292.out; have hnc13 := NB292_293.out; obtain ⟨hcz14_0, hcz14_1, hcz14_2, hcz14_3, hcz14_4, hcz14_5, hcz14_6, hcz14_7, hcz14_8, hcz14_9, hcz14_10, hfz14_0, hfz14_1, hfz14_2, hfz14_3, hfz14_4, hfz14_5, hfz14_6, hfz14_7, hfz14_8, hfz14_9, hfz14_10⟩ := blk11 BK293.out; obtain ⟨hcz15_0, hcz15_1, hcz15_2, hcz15_3, hcz15_4, hcz15_5, hcz15_6, hcz15_7, hcz15_8, hcz15_9, hcz15_10, hfz15_0, hfz15_1, hfz15_2, hfz15_3, hfz15_4, hfz15_5, hfz15_6, hfz15_7, hfz15_8, hfz15_9, hfz15_10⟩ := blk11 BK292.out) | ((with_reducible refine gate_callee (f := 11) rfl ?_); refine goesL_ (some 13) rfl rfl Try.func11 (by kernel_rfl) rfl #[.agg #[.int .u8 0, .int .u32 1, .int .u32 2, .int .u16 3, .int .u16 4, .int .u8 0, .int .u8 9, .string (⟨#[]⟩ : ByteArray), .bool false, .int .u32 0, .int .u32 0]] rfl AG ?_; (with_reducible refine (weighbridgelaw10_Make_frame.calls 0 1 2 3 4 0 9 (⟨#[]⟩ : ByteArray) false 0 0 t294 _ A1.out).mono ?_); rintro e w16 ⟨rfl, hb⟩; (try clear A1); refine ⟨_, rfl, ?_⟩; have n0_ := Aside0.mk (blk_below (g := gb292) (o := .cells (r11 0 1 2 3 4 0 9 (⟨#[]⟩ : ByteArray) false 0 0) 25 (0, 0)) (BE BK292) hb); have n1_ := Aside0.mk (blk_below (g := gb293) (o := .cells (r11 0 5 6 7 8 0 8 (⟨#[]⟩ : ByteArray) false 0 0) 25 (0, 0)) (BE BK293) hb); have n2_ := Aside0.mk (below_step (BW HB) hb); clear BK292; clear BK293; clear HB; have BK292 := n0_; have BK293 := n1_; have HB := n2_; clear n0_ n1_ n2_; (try clear hb)) | ((with_reducible refine gate_callee (f := 12) rfl ?_); refine goesL_ (some 15) rfl rfl Try.func12 (by kernel_rfl) rfl #[.string t294, .agg #[.int .u32 5, .int .u32 6, .int .i64 7, .int .i64 8]] rfl AG ?_; (with_reducible refine (patch_Plain.calls t294 5 6 7 8 t295 t296 _ A2.out).mono ?_); rintro e w17 ⟨rfl, hb⟩; (try clear A2); refine ⟨_, rfl, ?_⟩; have n0_ := Aside0.mk (blk_below (g := gb292) (o := .cells (r11 0 1 2 3 4 0 9 (⟨#[]⟩ : ByteArray) false 0 0) 25 (0, 0)) (BD BK292) hb); have n1_ := Aside0.mk (blk_below (g := gb293) (o := .cells (r11 0 5 6 7 8 0 8 (⟨#[]⟩ : ByteArray) false 0 0) 25 (0, 0)) (BD BK293) hb); have n2_ := Aside0.mk (below_step (BW HB) hb); clear BK292; clear BK293; clear HB; have BK292 := n0_; have BK293 := n1_; have HB := n2_; clear n0_ n1_ n2_; (try clear hb)) | ((with_reducible refine gate_callee (f := 12) rfl ?_); refine goesL_ (some 20) rfl rfl Try.func12 (by kernel_rfl) rfl #[.string (⟨#[]⟩ : ByteArray), .agg #[.int .u32 0, .int .u32 0, .int .i64 0, .int .i64 0]] rfl AG ?_; (with_reducible refine (patch_Plain.calls (⟨#[]⟩ : ByteArray) 0 0 0 0 t297 t298 _ A3.out).mono ?_); rintro e w18 ⟨rfl, hb⟩; (try clear A3); refine ⟨_, rfl, ?_⟩; have n0_ := Aside0.mk (blk_below (g := gb292) (o := .cells (r11 0 1 2 3 4 0 9 (⟨#[]⟩ : ByteArray) false 0 0) 25 (0, 0)) (BD BK292) hb); have n1_ := Aside0.mk (blk_below (g := gb293) (o := .cells (r11 0 5 6 7 8 0 8 (⟨#[]⟩ : ByteArray) false 0 0) 25 (0, 0)) (BD BK293) hb); have n2_ := Aside0.mk (below_step (BW HB) hb); clear BK292; clear BK293; clear HB; have BK292 := n0_; have BK293 := n1_; have HB := n2_; clear n0_ n1_ n2_; (try clear hb); obtain ⟨hcz19_0, hcz19_1, hcz19_2, hcz19_3, hcz19_4, hcz19_5, hcz19_6, hcz19_7, hcz19_8, hcz19_9, hcz19_10, hfz19_0, hfz19_1, hfz19_2, hfz19_3, hfz19_4, hfz19_5, hfz19_6, hfz19_7, hfz19_8, hfz19_9, hfz19_10⟩ := blk11 BK292.out) | ((with_reducible refine gate_callee (f := 11) rfl ?_); refine goesL_ (some 26) rfl rfl Try.func11 (by kernel_rfl) rfl #[.agg #[.int .u8 0, .int .u32 1, .int .u32 2, .int .u16 3, .int .u16 4, .int .u8 0, .int .u8 1, .string (⟨#[]⟩ : ByteArray), .bool false, .int .u32 0, .int .u32 0]] rfl AG ?_; (with_reducible refine (weighbridgelaw10_Make_frame.calls 0 1 2 3 4 0 1 (⟨#[]⟩ : ByteArray) false 0 0 t299 _ A4.out).mono ?_); rintro e w20 ⟨rfl, hb⟩; (try clear A4); refine ⟨_, rfl, ?_⟩; have n0_ := Aside0.mk (blk_below (g := gb292) (o := .cells (r11 0 1 2 3 4 0 1 (⟨#[]⟩ : ByteArray) false 0 0) 25 (0, 0)) (BE BK292) hb); have n1_ := Aside0.mk (blk_below (g := gb293) (o := .cells (r11 0 5 6 7 8 0 8 (⟨#[]⟩ : ByteArray) false 0 0) 25 (0, 0)) (BE BK293) hb); have n2_ := Aside0.mk (below_step (BW HB) hb); clear BK292; clear BK293; clear HB; have BK292 := n0_; have BK293 := n1_; have HB := n2_; clear n0_ n1_ n2_; (try clear hb)) | ((with_reducible refine gate_callee (f := 12) rfl ?_); refine goesL_ (some 28) rfl rfl Try.func12 (by kernel_rfl) rfl #[.string t299, .agg #[.int .u32 0, .int .u32 0, .int .i64 0, .int .i64 0]] rfl AG ?_; (with_reducible refine (patch_Plain.calls t299 0 0 0 0 t300 t301 _ A5.out).mono ?_); rintro e w21 ⟨rfl, hb⟩; (try clear A5); refine ⟨_, rfl, ?_⟩; have n0_ := Aside0.mk (blk_below (g := gb292) (o := .cells (r11 0 1 2 3 4 0 1 (⟨#[]⟩ : ByteArray) false 0 0) 25 (0, 0)) (BD BK292) hb); have n1_ := Aside0.mk (blk_below (g := gb293) (o := .cells (r11 0 5 6 7 8 0 8 (⟨#[]⟩ : ByteArray) false 0 0) 25 (0, 0)) (BD BK293) hb); have n2_ := Aside0.mk (below_step (BW HB) hb); clear BK292; clear BK293; clear HB; have BK292 := n0_; have BK293 := n1_; have HB := n2_; clear n0_ n1_ n2_; (try clear hb); obtain ⟨hcz22_0, hcz22_1, hcz22_2, hcz22_3, hcz22_4, hcz22_5, hcz22_6, hcz22_7, hcz22_8, hcz22_9, hcz22_10, hfz22_0, hfz22_1, hfz22_2, hfz22_3, hfz22_4, hfz22_5, hfz22_6, hfz22_7, hfz22_8, hfz22_9, hfz22_10⟩ := blk11 BK293.out) | ((with_reducible refine gate_callee (f := 11) rfl ?_); refine goesL_ (some 33) rfl rfl Try.func11 (by kernel_rfl) rfl #[.agg #[.int .u8 0, .int .u32 5, .int .u32 6, .int .u16 7, .int .u16 8, .int .u8 0, .int .u8 8, .string (⟨#[]⟩ : ByteArray), .bool false, .int .u32 0, .int .u32 0]] rfl AG ?_; (with_reducible refine (weighbridgelaw10_Make_frame.calls 0 5 6 7 8 0 8 (⟨#[]⟩ : ByteArray) false 0 0 t302 _ A6.out).mono ?_); rintro e w23 ⟨rfl, hb⟩; (try clear A6); refine ⟨_, rfl, ?_⟩; have n0_ := Aside0.mk (blk_below (g := gb292) (o := .cells (r11 0 1 2 3 4 0 1 (⟨#[]⟩ : ByteArray) false 0 0) 25 (0, 0)) (BD BK292) hb); have n1_ := Aside0.mk (blk_below (g := gb293) (o := .cells (r11 0 5 6 7 8 0 8 (⟨#[]⟩ : ByteArray) false 0 0) 25 (0, 0)) (BD BK293) hb); have n2_ := Aside0.mk (below_step (BW HB) hb); clear BK292; clear BK293; clear HB; have BK292 := n0_; have BK293 := n1_; have HB := n2_; clear n0_ n1_ n2_; (try clear hb)))
   go_ret
   exact ⟨RT, BW HB⟩
  rw [if_neg c9] at H
  have c9b0 : (t298 == 2) = false := beq_eq_false_iff_ne.mpr c9
  have c9b1 : (t298 != 2) = true := bne_iff_ne.mpr c9
  exact absurd ((Option.some.inj H).trans hr_) (by decide)
 rw [if_neg c8] at H
 have c8b0 : (t296 == 0) = false := beq_eq_false_iff_ne.mpr c8
 have c8b1 : (t296 != 0) = true := bne_iff_ne.mpr c8
 exact absurd ((Option.some.inj H).trans hr_) (by decide)

def weighbridgelaw10_examples.f : Option Bool := some true
theorem weighbridgelaw10_examples.calls (r : Bool) (w : World) (h : weighbridgelaw10_examples.f = some r) :
  Calls Try.prog 9 #[] w fun e w' => e = .returned (.bool r) ∧ Below w.heap.size w w' := by
 unfold weighbridgelaw10_examples.f at h
 obtain rfl := Option.some.inj h
 exact weighbridgelaw10_examples_p.calls true w (by kernel_rfl) rfl

def weighbridgelaw10_broken.T6 : Bool × List (List Nat × List Nat) := (true, [([], []), ([], []), ([], []), ([2], [2]), ([1, 3], [1, 3]), ([], []), ([], []), ([], []), ([7], [7]), ([6, 8], [6, 8]), ([5, 9], [5, 9]), ([10], [10]), ([], []), ([11, 12], [11, 12]), ([0, 4, 0, 1, 2, 3, 4, 5, 6, 7, 8, 9, 10, 11, 12, 13], [0, 4]), ([14, 13, 0, 1, 2, 3, 4, 5, 6, 7, 8, 9, 10, 11, 12, 13], [13, 14])])
def weighbridgelaw10_broken.B6 : List Nat := [0, 0, 0, 4, 14, 0, 0, 0, 128, 448, 992, 2016, 0, 8160, 16383, 32767]
theorem weighbridgelaw10_broken.tab6 : rtab .any (opsOf Try.f10 6) = weighbridgelaw10_broken.T6 := by kernel_rfl
theorem weighbridgelaw10_broken.bits6 : waitsOk weighbridgelaw10_broken.T6.2 weighbridgelaw10_broken.B6 = true := by kernel_rfl
end Go.Proofs.Ytfnjohklmpiboaa.Pr
