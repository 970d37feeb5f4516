-- Written by a program of the session (wip/tools) out of the translation, over the kit's print; with pieces of the session's own.
import Derived.Test.YtkganedlhcepfaaPr0
import Derived.Test.YtkganedlhcepfaaPr1
namespace Go.Proofs.Ytkganedlhcepfaa.Pr
open Go.RowKit Go.Proofs.YtkganedlhcepfaaW.PrintWords Go.Proofs.YtkganedlhcepfaaW.PrintLast Go.Proofs.YtkganedlhcepfaaW.PrintMore
attribute [local go_sem] max2_int min2_int max_two min_two max_three min_three max_four min_four   -- for this text's walks alone
set_option linter.unusedVariables false
set_option linter.unusedSimpArgs false
open Go.Proofs.Ytkganedlhcepfaa.Sp
attribute [local go_sem high] eqA30
/-! ### weighbridgelaw09_alike: function 14 -/
def weighbridgelaw09_alike.f (a0_0 : Int) (a0_1 : Int) (a0_2 : Int) (a0_3 : Int) (a0_4 : Int) (a0_5 : Int) (a0_6 : Int) (a0_7 : Int) (a0_8 : Int) (a0_9 : Int) (a0_10 : Int) (a0_11 : Int) (a0_12 : Int) (a0_13 : Int) (a1_0 : Int) (a1_1 : Int) (a1_2 : Int) (a1_3 : Int) (a1_4 : Int) (a1_5 : Int) (a1_6 : Int) (a1_7 : Int) (a1_8 : Int) (a1_9 : Int) (a1_10 : Int) (a1_11 : Int) (a1_12 : Int) (a1_13 : Int) : Option (Bool) := if a0_0 = a1_0 then (if a0_1 = a1_1 then (if a0_2 = a1_2 then (if (a0_3 == a1_3 && (a0_4 == a1_4 && (a0_5 == a1_5 && (a0_6 == a1_6 && (a0_7 == a1_7))))) = true then (if a0_8 = a1_8 then (if a0_9 = a1_9 then (if a0_10 = a1_10 then (if a0_11 = a1_11 then (if a0_12 = a1_12 then (some (a0_13 == a1_13)) else (some false)) else (some false)) else (some false)) else (some false)) else (some false)) else (some false)) else (some false)) else (some false)) else (some false)
set_option maxHeartbeats 8000000 in
set_option maxRecDepth 100000 in
theorem weighbridgelaw09_alike.calls (a0_0 : Int) (a0_1 : Int) (a0_2 : Int) (a0_3 : Int) (a0_4 : Int) (a0_5 : Int) (a0_6 : Int) (a0_7 : Int) (a0_8 : Int) (a0_9 : Int) (a0_10 : Int) (a0_11 : Int) (a0_12 : Int) (a0_13 : Int) (a1_0 : Int) (a1_1 : Int) (a1_2 : Int) (a1_3 : Int) (a1_4 : Int) (a1_5 : Int) (a1_6 : Int) (a1_7 : Int) (a1_8 : Int) (a1_9 : Int) (a1_10 : Int) (a1_11 : Int) (a1_12 : Int) (a1_13 : Int) (r : Bool) (w : World) (h : weighbridgelaw09_alike.f a0_0 a0_1 a0_2 a0_3 a0_4 a0_5 a0_6 a0_7 a0_8 a0_9 a0_10 a0_11 a0_12 a0_13 a1_0 a1_1 a1_2 a1_3 a1_4 a1_5 a1_6 a1_7 a1_8 a1_9 a1_10 a1_11 a1_12 a1_13 = some r) :
  Calls Try.prog 14 #[.agg #[.int .i64 a0_0, .int .i64 a0_1, .int .i64 a0_2, .int .i64 a0_3, .int .u32 a0_4, .int .u32 a0_5, .int .i64 a0_6, .int .i64 a0_7, .int .i64 a0_8, .int .i64 a0_9, .int .u32 a0_10, .int .u32 a0_11, .int .i64 a0_12, .int .i64 a0_13], .agg #[.int .i64 a1_0, .int .i64 a1_1, .int .i64 a1_2, .int .i64 a1_3, .int .u32 a1_4, .int .u32 a1_5, .int .i64 a1_6, .int .i64 a1_7, .int .i64 a1_8, .int .i64 a1_9, .int .u32 a1_10, .int .u32 a1_11, .int .i64 a1_12, .int .i64 a1_13]] w fun e w' => e = .returned (.bool r) ∧ Below w.heap.size w w' := by
 have hu32 := Try.underlying32
 have hu36 := Try.underlying36
 have hu30 := Try.underlying30
 have HB := AA (Below.refl w.heap.size w)
 have H := h
 unfold weighbridgelaw09_alike.f at H
 clear h
 by_cases c3 : a0_0 = a1_0
 rotate_left
 ·rw [if_neg c3] at H
  have c3b0 := BF c3
  have c3b1 := NT c3
  obtain rfl := Option.some.inj H
  go_enter Try.func14, Try.ntmps14
  go_wp2_with (first | ((with_reducible refine gate_dst (N := 2) rfl ?_); refine bx 2 32 (rr14 a0_0 a0_1 a0_2 a0_3 a0_4 a0_5 a0_6 a0_7 a0_8 a0_9 a0_10 a0_11 a0_12 a0_13) ?_; intro gb442 hg w57 hbox hb; have BK442 := AA hbox; have GW442 := GS hg HB; have GE442 := GS hg HB; replace HB := BS HB hb; clear hb hbox hg) | ((with_reducible refine gate_dst (N := 3) rfl ?_); refine bx 3 36 (rr14 a1_0 a1_1 a1_2 a1_3 a1_4 a1_5 a1_6 a1_7 a1_8 a1_9 a1_10 a1_11 a1_12 a1_13) ?_; intro gb443 hg w58 hbox hb; have BK443 := AA hbox; have GW443 := GS hg HB; have GE443 := GS hg HB; replace HB := BS HB hb; have NB442_443 := NL hg BK442; have NB443_442 := NG hg BK442; replace BK442 := BB BK442 hb; clear hb hbox hg; have hnb59 := NB442_443.out; have hnc59 := NB443_442.out; have hz60 := blk14 BK442.out; have hz61 := blk14 BK443.out))
  go_ret
  exact ⟨RT, BW HB⟩
 rw [if_pos c3] at H
 have c3b0 := BT c3
 have c3b1 := NF c3
 clear c3
 by_cases c4 : a0_1 = a1_1
 rotate_left
 ·rw [if_neg c4] at H
  have c4b0 := BF c4
  have c4b1 := NT c4
  obtain rfl := Option.some.inj H
  go_enter Try.func14, Try.ntmps14
  go_wp2_with (first | ((with_reducible refine gate_dst (N := 2) rfl ?_); refine bx 2 32 (rr14 a0_0 a0_1 a0_2 a0_3 a0_4 a0_5 a0_6 a0_7 a0_8 a0_9 a0_10 a0_11 a0_12 a0_13) ?_; intro gb442 hg w52 hbox hb; have BK442 := AA hbox; have GW442 := GS hg HB; have GE442 := GS hg HB; replace HB := BS HB hb; clear hb hbox hg) | ((with_reducible refine gate_dst (N := 3) rfl ?_); refine bx 3 36 (rr14 a1_0 a1_1 a1_2 a1_3 a1_4 a1_5 a1_6 a1_7 a1_8 a1_9 a1_10 a1_11 a1_12 a1_13) ?_; intro gb443 hg w53 hbox hb; have BK443 := AA hbox; have GW443 := GS hg HB; have GE443 := GS hg HB; replace HB := BS HB hb; have NB442_443 := NL hg BK442; have NB443_442 := NG hg BK442; replace BK442 := BB BK442 hb; clear hb hbox hg; have hnb54 := NB442_443.out; have hnc54 := NB443_442.out; have hz55 := blk14 BK442.out; have hz56 := blk14 BK443.out))
  go_ret
  exact ⟨RT, BW HB⟩
 rw [if_pos c4] at H
 have c4b0 := BT c4
 have c4b1 := NF c4
 clear c4
 by_cases c5 : a0_2 = a1_2
 rotate_left
 ·rw [if_neg c5] at H
  have c5b0 := BF c5
  have c5b1 := NT c5
  obtain rfl := Option.some.inj H
  go_enter Try.func14, Try.ntmps14
  go_wp2_with (first | ((with_reducible refine gate_dst (N := 2) rfl ?_); refine bx 2 32 (rr14 a0_0 a0_1 a0_2 a0_3 a0_4 a0_5 a0_6 a0_7 a0_8 a0_9 a0_10 a0_11 a0_12 a0_13) ?_; intro gb442 hg w47 hbox hb; have BK442 := AA hbox; have GW442 := GS hg HB; have GE442 := GS hg HB; replace HB := BS HB hb; clear hb hbox hg) | ((with_reducible refine gate_dst (N := 3) rfl ?_); refine bx 3 36 (rr14 a1_0 a1_1 a1_2 a1_3 a1_4 a1_5 a1_6 a1_7 a1_8 a1_9 a1_10 a1_11 a1_12 a1_13) ?_; intro gb443 hg w48 hbox hb; have BK443 := AA hbox; have GW443 := GS hg HB; have GE443 := GS hg HB; replace HB := BS HB hb; have NB442_443 := NL hg BK442; have NB443_442 := NG hg BK442; replace BK442 := BB BK442 hb; clear hb hbox hg; have hnb49 := NB442_443.out; have hnc49 := NB443_442.out; have hz50 := blk14 BK442.out; have hz51 := blk14 BK443.out))
  go_ret
  exact ⟨RT, BW HB⟩
 rw [if_pos c5] at H
 have c5b0 := BT c5
 have c5b1 := NF c5
 clear c5
 by_cases c6 : (a0_3 == a1_3 && (a0_4 == a1_4 && (a0_5 == a1_5 && (a0_6 == a1_6 && (a0_7 == a1_7))))) = true
 rotate_left
 ·rw [if_neg c6] at H
  have c6b0 : (a0_3 == a1_3 && (a0_4 == a1_4 && (a0_5 == a1_5 && (a0_6 == a1_6 && (a0_7 == a1_7))))) = false := by simpa using c6
  (try (have c6b1 : decide (a0_3 = a1_3 && (a0_4 == a1_4 && (a0_5 == a1_5 && (a0_6 == a1_6 && (a0_7 == a1_7))))) = false := by simpa using c6))
  (try (have c6b2 : (a0_3 == a1_3 && (a0_4 == a1_4 && (a0_5 == a1_5 && (a0_6 == a1_6 && (a0_7 == a1_7))))) = false := by simpa using c6))
  (try (have c6b3 : ¬ (a0_3 = a1_3 && (a0_4 == a1_4 && (a0_5 == a1_5 && (a0_6 == a1_6 && (a0_7 == a1_7))))) := by simpa using c6))
  clear c6
  obtain rfl := Option.some.inj H
  go_enter Try.func14, Try.ntmps14
  go_wp2_with (first | ((with_reducible refine gate_dst (N := 2) rfl ?_); refine bx 2 32 (rr14 a0_0 a0_1 a0_2 a0_3 a0_4 a0_5 a0_6 a0_7 a0_8 a0_9 a0_10 a0_11 a0_12 a0_13) ?_; intro gb442 hg w42 hbox hb; have BK442 := AA hbox; have GW442 := GS hg HB; have GE442 := GS hg HB; replace HB := BS HB hb; clear hb hbox hg) | ((with_reducible refine gate_dst (N := 3) rfl ?_); refine bx 3 36 (rr14 a1_0 a1_1 a1_2 a1_3 a1_4 a1_5 a1_6 a1_7 a1_8 a1_9 a1_10 a1_11 a1_12 a1_13) ?_; intro gb443 hg w43 hbox hb; have BK443 := AA hbox; have GW443 := GS hg HB; have GE443 := GS hg HB; replace HB := BS HB hb; have NB442_443 := NL hg BK442; have NB443_442 := NG hg BK442; replace BK442 := BB BK442 hb; clear hb hbox hg; have hnb44 := NB442_443.out; have hnc44 := NB443_442.out; have hz45 := blk14 BK442.out; have hz46 := blk14 BK443.out))
  go_ret
  exact ⟨RT, BW HB⟩
 rw [if_pos c6] at H
 have c6b0 : (a0_3 == a1_3 && (a0_4 == a1_4 && (a0_5 == a1_5 && (a0_6 == a1_6 && (a0_7 == a1_7))))) = true := c6
 (try (have c6b1 : decide (a0_3 = a1_3 && (a0_4 == a1_4 && (a0_5 == a1_5 && (a0_6 == a1_6 && (a0_7 == a1_7))))) = true := by simpa using c6))
 (try (have c6b2 : (a0_3 == a1_3 && (a0_4 == a1_4 && (a0_5 == a1_5 && (a0_6 == a1_6 && (a0_7 == a1_7))))) = true := by simpa using c6))
 clear c6
 by_cases c7 : a0_8 = a1_8
 rotate_left
 ·rw [if_neg c7] at H
  have c7b0 := BF c7
  have c7b1 := NT c7
  obtain rfl := Option.some.inj H
  go_enter Try.func14, Try.ntmps14
  go_wp2_with (first | ((with_reducible refine gate_dst (N := 2) rfl ?_); refine bx 2 32 (rr14 a0_0 a0_1 a0_2 a0_3 a0_4 a0_5 a0_6 a0_7 a0_8 a0_9 a0_10 a0_11 a0_12 a0_13) ?_; intro gb442 hg w37 hbox hb; have BK442 := AA hbox; have GW442 := GS hg HB; have GE442 := GS hg HB; replace HB := BS HB hb; clear hb hbox hg) | ((with_reducible refine gate_dst (N := 3) rfl ?_); refine bx 3 36 (rr14 a1_0 a1_1 a1_2 a1_3 a1_4 a1_5 a1_6 a1_7 a1_8 a1_9 a1_10 a1_11 a1_12 a1_13) ?_; intro gb443 hg w38 hbox hb; have BK443 := AA hbox; have GW443 := GS hg HB; have GE443 := GS hg HB; replace HB := BS HB hb; have NB442_443 := NL hg BK442; have NB443_442 := NG hg BK442; replace BK442 := BB BK442 hb; clear hb hbox hg; have hnb39 := NB442_443.out; have hnc39 := NB443_442.out; have hz40 := blk14 BK442.out; have hz41 := blk14 BK443.out))
  go_ret
  exact ⟨RT, BW HB⟩
 rw [if_pos c7] at H
 have c7b0 := BT c7
 have c7b1 := NF c7
 clear c7
 by_cases c8 : a0_9 = a1_9
 rotate_left
 ·rw [if_neg c8] at H
  have c8b0 := BF c8
  have c8b1 := NT c8
  obtain rfl := Option.some.inj H
  go_enter Try.func14, Try.ntmps14
  go_wp2_with (first | ((with_reducible refine gate_dst (N := 2) rfl ?_); refine bx 2 32 (rr14 a0_0 a0_1 a0_2 a0_3 a0_4 a0_5 a0_6 a0_7 a0_8 a0_9 a0_10 a0_11 a0_12 a0_13) ?_; intro gb442 hg w32 hbox hb; have BK442 := AA hbox; have GW442 := GS hg HB; have GE442 := GS hg HB; replace HB := BS HB hb; clear hb hbox hg) | ((with_reducible refine gate_dst (N := 3) rfl ?_); refine bx 3 36 (rr14 a1_0 a1_1 a1_2 a1_3 a1_4 a1_5 a1_6 a1_7 a1_8 a1_9 a1_10 a1_11 a1_12 a1_13) ?_; intro gb443 hg w33 hbox hb; have BK443 := AA hbox; have GW443 := GS hg HB; have GE443 := GS hg HB; replace HB := BS HB hb; have NB442_443 := NL hg BK442; have NB443_442 := NG hg BK442; replace BK442 := BB BK442 hb; clear hb hbox hg; have hnb34 := NB442_443.out; have hnc34 := NB443_442.out; have hz35 := blk14 BK442.out; have hz36 := blk14 BK443.out))
  go_ret
  exact ⟨RT, BW HB⟩
 rw [if_pos c8] at H
 have c8b0 := BT c8
 have c8b1 := NF c8
 clear c8
 by_cases c9 : a0_10 = a1_10
 rotate_left
 ·rw [if_neg c9] at H
  have c9b0 := BF c9
  have c9b1 := NT c9
  obtain rfl := Option.some.inj H
  go_enter Try.func14, Try.ntmps14
  go_wp2_with (first | ((with_reducible refine gate_dst (N := 2) rfl ?_); refine bx 2 32 (rr14 a0_0 a0_1 a0_2 a0_3 a0_4 a0_5 a0_6 a0_7 a0_8 a0_9 a0_10 a0_11 a0_12 a0_13) ?_; intro gb442 hg w27 hbox hb; have BK442 := AA hbox; have GW442 := GS hg HB; have GE442 := GS hg HB; replace HB := BS HB hb; clear hb hbox hg) | ((with_reducible refine gate_dst (N := 3) rfl ?_); refine bx 3 36 (rr14 a1_0 a1_1 a1_2 a1_3 a1_4 a1_5 a1_6 a1_7 a1_8 a1_9 a1_10 a1_11 a1_12 a1_13) ?_; intro gb443 hg w28 hbox hb; have BK443 := AA hbox; have GW443 := GS hg HB; have GE443 := GS hg HB; replace HB := BS HB hb; have NB442_443 := NL hg BK442; have NB443_442 := NG hg BK442; replace BK442 := BB BK442 hb; clear hb hbox hg; have hnb29 := NB442_443.out; have hnc29 := NB443_442.out; have hz30 := blk14 BK442.out; have hz31 := blk14 BK443.out))
  go_ret
  exact ⟨RT, BW HB⟩
 rw [if_pos c9] at H
 have c9b0 := BT c9
 have c9b1 := NF c9
 clear c9
 by_cases c10 : a0_11 = a1_11
 ·rw [if_pos c10] at H
  have c10b0 := BT c10
  have c10b1 := NF c10
  clear c10
  by_cases c11 : a0_12 = a1_12
  ·rw [if_pos c11] at H
   have c11b0 := BT c11
   have c11b1 := NF c11
   clear c11
   obtain rfl := Option.some.inj H
   go_enter Try.func14, Try.ntmps14
   go_wp2_with (first | ((with_reducible refine gate_dst (N := 2) rfl ?_); refine bx 2 32 (rr14 a0_0 a0_1 a0_2 a0_3 a0_4 a0_5 a0_6 a0_7 a0_8 a0_9 a0_10 a0_11 a0_12 a0_13) ?_; intro gb442 hg w12 hbox hb; have BK442 := AA hbox; have GW442 := GS hg HB; have GE442 := GS hg HB; replace HB := BS HB hb; clear hb hbox hg) | ((with_reducible refine gate_dst (N := 3) rfl ?_); refine bx 3 36 (rr14 a1_0 a1_1 a1_2 a1_3 a1_4 a1_5 a1_6 a1_7 a1_8 a1_9 a1_10 a1_11 a1_12 a1_13) ?_; intro gb443 hg w13 hbox hb; have BK443 := AA hbox; have GW443 := GS hg HB; have GE443 := GS hg HB; replace HB := BS HB hb; have NB442_443 := NL hg BK442; have NB443_442 := NG hg BK442; replace BK442 := BB BK442 hb; clear hb hbox hg; have hnb14 := NB442_443.out; have hnc14 := NB443_442.out; have hz15 := blk14 BK442.out; have hz16 := blk14 BK443.out))
   go_ret
   exact ⟨RT, BW HB⟩
  rw [if_neg c11] at H
  have c11b0 := BF c11
  have c11b1 := NT c11
  obtain rfl := Option.some.inj H
  go_enter Try.func14, Try.ntmps14
  go_wp2_with (first | ((with_reducible refine gate_dst (N := 2) rfl ?_); refine bx 2 32 (rr14 a0_0 a0_1 a0_2 a0_3 a0_4 a0_5 a0_6 a0_7 a0_8 a0_9 a0_10 a0_11 a0_12 a0_13) ?_; intro gb442 hg w17 hbox hb; have BK442 := AA hbox; have GW442 := GS hg HB; have GE442 := GS hg HB; replace HB := BS HB hb; clear hb hbox hg) | ((with_reducible refine gate_dst (N := 3) rfl ?_); refine bx 3 36 (rr14 a1_0 a1_1 a1_2 a1_3 a1_4 a1_5 a1_6 a1_7 a1_8 a1_9 a1_10 a1_11 a1_12 a1_13) ?_; intro gb443 hg w18 hbox hb; have BK443 := AA hbox; have GW443 := GS hg HB; have GE443 := GS hg HB; replace HB := BS HB hb; have NB442_443 := NL hg BK442; have NB443_442 := NG hg BK442; replace BK442 := BB BK442 hb; clear hb hbox hg; have hnb19 := NB442_443.out; have hnc19 := NB443_442.out; have hz20 := blk14 BK442.out; have hz21 := blk14 BK443.out))
  go_ret
  exact ⟨RT, BW HB⟩
 rw [if_neg c10] at H
 have c10b0 := BF c10
 have c10b1 := NT c10
 obtain rfl := Option.some.inj H
 go_enter Try.func14, Try.ntmps14
 go_wp2_with (first | ((with_reducible refine gate_dst (N := 2) rfl ?_); refine bx 2 32 (rr14 a0_0 a0_1 a0_2 a0_3 a0_4 a0_5 a0_6 a0_7 a0_8 a0_9 a0_10 a0_11 a0_12 a0_13) ?_; intro gb442 hg w22 hbox hb; have BK442 := AA hbox; have GW442 := GS hg HB; have GE442 := GS hg HB; replace HB := BS HB hb; clear hb hbox hg) | ((with_reducible refine gate_dst (N := 3) rfl ?_); refine bx 3 36 (rr14 a1_0 a1_1 a1_2 a1_3 a1_4 a1_5 a1_6 a1_7 a1_8 a1_9 a1_10 a1_11 a1_12 a1_13) ?_; intro gb443 hg w23 hbox hb; have BK443 := AA hbox; have GW443 := GS hg HB; have GE443 := GS hg HB; replace HB := BS HB hb; have NB442_443 := NL hg BK442; have NB443_442 := NG hg BK442; replace BK442 := BB BK442 hb; clear hb hbox hg; have hnb24 := NB442_443.out; have hnc24 := NB443_442.out; have hz25 := blk14 BK442.out; have hz26 := blk14 BK443.out))
 go_ret
 exact ⟨RT, BW HB⟩

end Go.Proofs.Ytkganedlhcepfaa.Pr
