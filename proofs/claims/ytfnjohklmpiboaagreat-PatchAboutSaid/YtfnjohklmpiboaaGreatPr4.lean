-- Written by a program of the session (wip/tools) out of the translation, over the kit's print; with pieces of the session's own.
import Derived.Test.YtfnjohklmpiboaaGreatPr0
import Derived.Test.YtfnjohklmpiboaaGreatPr1
import Derived.Test.YtfnjohklmpiboaaGreatPr2
import Derived.Test.YtfnjohklmpiboaaGreatPr3
namespace Go.Proofs.YtfnjohklmpiboaaGreat.Pr
open Go.RowKit Go.Proofs.YtfnjohklmpiboaaGreatW.PrintWords Go.Proofs.YtfnjohklmpiboaaGreatW.PrintLast Go.Proofs.YtfnjohklmpiboaaGreatW.PrintMore
attribute [local go_sem] max2_int min2_int max_two min_two max_three min_three max_four min_four   -- for this text's walks alone
set_option linter.unusedVariables false
set_option linter.unusedSimpArgs false
open Go.Proofs.YtfnjohklmpiboaaGreat.Sp
/-! ### weighbridgeref04_Parse_p: function 65 -/
def weighbridgeref04_Parse_p.f (a0 : ByteArray) : Option (Int × Int × Int × Int × Int × Int × Int × Int × ByteArray × ByteArray × Int) := (weighbridgeref04_Sizes.f a0).bind fun bt324 => (if bt324.2.2 = 0 then (if 0 ≤ bt324.1 then (if bt324.1 ≤ (a0.size : Int) then ((weighbridgeref03_Sum.f (a0.extract 0 (bt324.1 : Int).toNat)).bind fun t327 => (if t327 = 65535 then (if 20 ≤ bt324.1 then ((weighbridgeref04_OptsRight.f (a0.extract 20 (bt324.1 : Int).toNat)).bind fun t328 => (if t328 = true then ((weighbridgeref04_num.f a0 6 2).bind fun t329 => ((weighbridgeref04_num.f a0 1 1).bind fun t330 => ((weighbridgeref04_num.f a0 4 2).bind fun t331 => ((weighbridgeref04_num.f a0 8 1).bind fun t332 => ((weighbridgeref04_num.f a0 9 1).bind fun t333 => ((weighbridgeref04_num.f a0 12 4).bind fun t334 => ((weighbridgeref04_num.f a0 16 4).bind fun t335 => (if bt324.1 ≤ bt324.2.1 then (if bt324.2.1 ≤ (a0.size : Int) then (some (t330, t331, wrap64 (Int.tdiv t329 8192), Int.tmod t329 8192, t332, t333, (t334) % 4294967296, (t335) % 4294967296, a0.extract 20 (bt324.1 : Int).toNat, a0.extract (bt324.1 : Int).toNat (bt324.2.1 : Int).toNat, 0)) else (none)) else (none))))))))) else (some (0, 0, 0, 0, 0, 0, 0, 0, (⟨#[]⟩ : ByteArray), (⟨#[]⟩ : ByteArray), 6)))) else (none)) else (some (0, 0, 0, 0, 0, 0, 0, 0, (⟨#[]⟩ : ByteArray), (⟨#[]⟩ : ByteArray), 7)))) else (none)) else (none)) else (some (0, 0, 0, 0, 0, 0, 0, 0, (⟨#[]⟩ : ByteArray), (⟨#[]⟩ : ByteArray), bt324.2.2)))
def weighbridgeref04_Parse_p.T10 : Bool × List (List Nat × List Nat) := (true, [([], []), ([0], [0]), ([], []), ([2, 1], [2]), ([], []), ([4], [4]), ([], []), ([6], [6]), ([], []), ([8, 3], [8]), ([], []), ([10, 9], [10]), ([], []), ([12, 11], [12]), ([13], [13]), ([], []), ([15, 13], [15]), ([16], [16]), ([], []), ([], []), ([18, 19], [18, 19]), ([1, 3, 5, 7, 9, 11, 14, 17, 20], [1, 3, 5, 7, 9, 11, 14, 17, 20]), ([], []), ([22, 21, 16, 0, 1, 2, 3, 4, 5, 6, 7, 8, 9, 10, 11, 12, 13, 14, 15, 16, 17, 18, 19, 20, 21, 22], [21, 22])])
def weighbridgeref04_Parse_p.B10 : List Nat := [0, 1, 0, 7, 0, 16, 0, 64, 0, 271, 0, 1807, 0, 7951, 16143, 0, 48911, 114447, 0, 0, 786432, 2097151, 0, 8388607]
theorem weighbridgeref04_Parse_p.tab10 : rtab .any (opsOf Tryz.f65 10) = weighbridgeref04_Parse_p.T10 := by kernel_rfl
theorem weighbridgeref04_Parse_p.bits10 : waitsOk weighbridgeref04_Parse_p.T10.2 weighbridgeref04_Parse_p.B10 = true := by kernel_rfl
def weighbridgeref04_Parse_p.T11 : Bool × List (List Nat × List Nat) := (true, [([], []), ([], []), ([], []), ([], []), ([1, 2, 3], [1, 2, 3]), ([0, 0], [0]), ([4, 5, 0, 1, 2, 3, 4, 5], [4]), ([6, 0, 1, 2, 3, 4, 5, 6], [])])
def weighbridgeref04_Parse_p.B11 : List Nat := [0, 0, 0, 0, 14, 1, 63, 127]
theorem weighbridgeref04_Parse_p.tab11 : rtab .any (opsOf Tryz.f65 11) = weighbridgeref04_Parse_p.T11 := by kernel_rfl
theorem weighbridgeref04_Parse_p.bits11 : waitsOk weighbridgeref04_Parse_p.T11.2 weighbridgeref04_Parse_p.B11 = true := by kernel_rfl
set_option maxHeartbeats 8000000 in
set_option maxRecDepth 100000 in
theorem weighbridgeref04_Parse_p.calls (a0 : ByteArray) (r1 : Int) (r2 : Int) (r3 : Int) (r4 : Int) (r5 : Int) (r6 : Int) (r7 : Int) (r8 : Int) (r9 : ByteArray) (r10 : ByteArray) (r11 : Int) (w : World) (h : weighbridgeref04_Parse_p.f a0 = some (r1, r2, r3, r4, r5, r6, r7, r8, r9, r10, r11)) :
  Calls Tryz.prog 65 #[.string a0] w fun e w' => e = .returned (.tuple #[.agg #[.int .i64 r1, .int .i64 r2, .int .i64 r3, .int .i64 r4, .int .i64 r5, .int .i64 r6, .int .u32 r7, .int .u32 r8, .string r9], .string r10, .int .i64 r11]) ∧ Below w.heap.size w w' := by
 have hu43 := Tryz.underlying43
 have HB := AA (Below.refl w.heap.size w)
 have H := h
 unfold weighbridgeref04_Parse_p.f at H
 clear h
 replace H := OB H
 obtain ⟨⟨t324, t325, t326⟩, A2, H⟩ := H
 (try set_option simprocs false in dsimp only at H)
 by_cases c3 : t326 = 0
 rotate_left
 ·rw [if_neg c3] at H
  have c3b0 := BF c3
  have c3b1 := NT c3
  simp only [Option.some.injEq, Prod.mk.injEq] at H
  obtain ⟨rfl, rfl, rfl, rfl, rfl, rfl, rfl, rfl, rfl, rfl, rfl⟩ := H
  go_enter Tryz.func65, Tryz.ntmps65
  go_wp2_with (first | ((with_reducible refine gate_dst (N := 2) rfl ?_); refine bx 2 43 (rr9 0 0 0 0 0 0 0 0 (⟨#[]⟩ : ByteArray)) ?_; intro gb323 hg w55 hbox hb; have BK323 := AA hbox; have GW323 := GS hg HB; have GE323 := GS hg HB; replace HB := BS HB hb; clear hb hbox hg) | ((with_reducible refine gkx 66 rfl ?_); refine gL 13 Tryz.func66 rfl (weighbridgeref04_Sizes.calls a0 t324 t325 t326 _ A2.out) ?_; rintro w' ⟨nd, rfl⟩; (try (rw [drewN_self w55]; generalize hq_ : World.drewN w55 _ = w55; have n0_ : Aside0 (w55.heap[gb323]? = some (.cells (rr9 0 0 0 0 0 0 0 0 (⟨#[]⟩ : ByteArray)) 43 (0, 0))) := ⟨by rw [← hq_]; exact (BD BK323)⟩; have n1_ : Aside0 (Below w.heap.size w w55) := ⟨by rw [← hq_]; exact (BW HB)⟩; clear BK323 HB hq_; have BK323 := n0_; have HB := n1_; clear n0_ n1_)); have hz56 := blk9 BK323.out))
  refine bodyPost_ret (results_ctt rfl _ _ gb323 43 #[.int .i64 0, .int .i64 0, .int .i64 0, .int .i64 0, .int .i64 0, .int .i64 0, .int .u32 0, .int .u32 0, .string (⟨#[]⟩ : ByteArray)] (0, 0) _ rfl (BE BK323) Tryz.underlying43 rfl (by kernel_rfl)) rfl ?_
  exact ⟨RT, BW HB⟩
 rw [if_pos c3] at H
 have c3b0 := BT c3
 have c3b1 := NF c3
 clear c3
 replace H := IU H
 obtain ⟨c4b0, c4b1, H⟩ := H
 replace H := IU H
 obtain ⟨c5b0, c5b1, H⟩ := H
 replace H := OB H
 obtain ⟨t327, A6, H⟩ := H
 (try set_option simprocs false in dsimp only at H)
 by_cases c7 : t327 = 65535
 rotate_left
 ·rw [if_neg c7] at H
  have c7b0 := BF c7
  have c7b1 := NT c7
  simp only [Option.some.injEq, Prod.mk.injEq] at H
  obtain ⟨rfl, rfl, rfl, rfl, rfl, rfl, rfl, rfl, rfl, rfl, rfl⟩ := H
  go_enter Tryz.func65, Tryz.ntmps65
  go_wp2_with (first | ((with_reducible refine gate_dst (N := 2) rfl ?_); refine bx 2 43 (rr9 0 0 0 0 0 0 0 0 (⟨#[]⟩ : ByteArray)) ?_; intro gb323 hg w52 hbox hb; have BK323 := AA hbox; have GW323 := GS hg HB; have GE323 := GS hg HB; replace HB := BS HB hb; clear hb hbox hg) | ((with_reducible refine gkx 66 rfl ?_); refine gL 13 Tryz.func66 rfl (weighbridgeref04_Sizes.calls a0 t324 t325 t326 _ A2.out) ?_; rintro w' ⟨nd, rfl⟩; (try (rw [drewN_self w52]; generalize hq_ : World.drewN w52 _ = w52; have n0_ : Aside0 (w52.heap[gb323]? = some (.cells (rr9 0 0 0 0 0 0 0 0 (⟨#[]⟩ : ByteArray)) 43 (0, 0))) := ⟨by rw [← hq_]; exact (BD BK323)⟩; have n1_ : Aside0 (Below w.heap.size w w52) := ⟨by rw [← hq_]; exact (BW HB)⟩; clear BK323 HB hq_; have BK323 := n0_; have HB := n1_; clear n0_ n1_))) | ((with_reducible refine gkx 48 rfl ?_); refine gL 24 Tryz.func48 rfl (weighbridgeref03_Sum.calls (a0.extract 0 (t324 : Int).toNat) t327 _ A6.out) ?_; rintro w53 hb; (try clear A6); replace BK323 := AA (blk_below (g := gb323) (o := .cells (rr9 0 0 0 0 0 0 0 0 (⟨#[]⟩ : ByteArray)) 43 (0, 0)) (BD BK323) hb); replace HB := BS HB hb; (try clear hb); have hz54 := blk9 BK323.out))
  refine bodyPost_ret (results_ctt rfl _ _ gb323 43 #[.int .i64 0, .int .i64 0, .int .i64 0, .int .i64 0, .int .i64 0, .int .i64 0, .int .u32 0, .int .u32 0, .string (⟨#[]⟩ : ByteArray)] (0, 0) _ rfl (BE BK323) Tryz.underlying43 rfl (by kernel_rfl)) rfl ?_
  exact ⟨RT, BW HB⟩
 rw [if_pos c7] at H
 have c7b0 := BT c7
 have c7b1 := NF c7
 clear c7
 replace H := IU H
 obtain ⟨c8b0, c8b1, H⟩ := H
 have c9b0 := eq_true (DA : t324 ≤ (a0.size : Int))
 replace H := OB H
 obtain ⟨t328, A10, H⟩ := H
 (try set_option simprocs false in dsimp only at H)
 by_cases c11 : t328 = true
 rotate_left
 ·replace c11 := Bool.eq_false_iff.mpr c11
  subst c11
  replace H := IFN H
  simp only [Option.some.injEq, Prod.mk.injEq] at H
  obtain ⟨rfl, rfl, rfl, rfl, rfl, rfl, rfl, rfl, rfl, rfl, rfl⟩ := H
  go_enter Tryz.func65, Tryz.ntmps65
  go_wp2_with (first | ((with_reducible refine gate_dst (N := 2) rfl ?_); refine bx 2 43 (rr9 0 0 0 0 0 0 0 0 (⟨#[]⟩ : ByteArray)) ?_; intro gb323 hg w49 hbox hb; have BK323 := AA hbox; have GW323 := GS hg HB; have GE323 := GS hg HB; replace HB := BS HB hb; clear hb hbox hg) | ((with_reducible refine gkx 66 rfl ?_); refine gL 13 Tryz.func66 rfl (weighbridgeref04_Sizes.calls a0 t324 t325 t326 _ A2.out) ?_; rintro w' ⟨nd, rfl⟩; (try (rw [drewN_self w49]; generalize hq_ : World.drewN w49 _ = w49; have n0_ : Aside0 (w49.heap[gb323]? = some (.cells (rr9 0 0 0 0 0 0 0 0 (⟨#[]⟩ : ByteArray)) 43 (0, 0))) := ⟨by rw [← hq_]; exact (BD BK323)⟩; have n1_ : Aside0 (Below w.heap.size w w49) := ⟨by rw [← hq_]; exact (BW HB)⟩; clear BK323 HB hq_; have BK323 := n0_; have HB := n1_; clear n0_ n1_))) | ((with_reducible refine gkx 48 rfl ?_); refine gL 24 Tryz.func48 rfl (weighbridgeref03_Sum.calls (a0.extract 0 (t324 : Int).toNat) t327 _ A6.out) ?_; rintro w50 hb; (try clear A6); replace BK323 := AA (blk_below (g := gb323) (o := .cells (rr9 0 0 0 0 0 0 0 0 (⟨#[]⟩ : ByteArray)) 43 (0, 0)) (BD BK323) hb); replace HB := BS HB hb; (try clear hb)) | ((with_reducible refine gkx 50 rfl ?_); refine gL 30 Tryz.func50 rfl (weighbridgeref04_OptsRight.calls (a0.extract 20 (t324 : Int).toNat) false _ A10.out) ?_; rintro w' ⟨nd, rfl⟩; (try (rw [drewN_self w50]; generalize hq_ : World.drewN w50 _ = w50; have n0_ : Aside0 (w50.heap[gb323]? = some (.cells (rr9 0 0 0 0 0 0 0 0 (⟨#[]⟩ : ByteArray)) 43 (0, 0))) := ⟨by rw [← hq_]; exact (BD BK323)⟩; have n1_ : Aside0 (Below w.heap.size w w50) := ⟨by rw [← hq_]; exact (BW HB)⟩; clear BK323 HB hq_; have BK323 := n0_; have HB := n1_; clear n0_ n1_)); have hz51 := blk9 BK323.out))
  refine bodyPost_ret (results_ctt rfl _ _ gb323 43 #[.int .i64 0, .int .i64 0, .int .i64 0, .int .i64 0, .int .i64 0, .int .i64 0, .int .u32 0, .int .u32 0, .string (⟨#[]⟩ : ByteArray)] (0, 0) _ rfl (BE BK323) Tryz.underlying43 rfl (by kernel_rfl)) rfl ?_
  exact ⟨RT, BW HB⟩
 subst c11
 first | rw [if_pos rfl] at H | rw [if_pos trivial] at H
 replace H := OB H
 obtain ⟨t329, A12, H⟩ := H
 (try set_option simprocs false in dsimp only at H)
 replace H := OB H
 obtain ⟨t330, A13, H⟩ := H
 (try set_option simprocs false in dsimp only at H)
 replace H := OB H
 obtain ⟨t331, A14, H⟩ := H
 (try set_option simprocs false in dsimp only at H)
 replace H := OB H
 obtain ⟨t332, A15, H⟩ := H
 (try set_option simprocs false in dsimp only at H)
 replace H := OB H
 obtain ⟨t333, A16, H⟩ := H
 (try set_option simprocs false in dsimp only at H)
 replace H := OB H
 obtain ⟨t334, A17, H⟩ := H
 (try set_option simprocs false in dsimp only at H)
 replace H := OB H
 obtain ⟨t335, A18, H⟩ := H
 (try set_option simprocs false in dsimp only at H)
 have c19b0 := eq_true (DA : 20 ≤ t324)
 have c20b0 := eq_true (DA : t324 ≤ (a0.size : Int))
 have c21b0 := eq_true (DA : 0 ≤ t324)
 replace H := IU H
 obtain ⟨c22b0, c22b1, H⟩ := H
 replace H := IU H
 obtain ⟨c23b0, c23b1, H⟩ := H
 simp only [Option.some.injEq, Prod.mk.injEq] at H
 obtain ⟨rfl, rfl, rfl, rfl, rfl, rfl, rfl, rfl, rfl, rfl, rfl⟩ := H
 go_enter Tryz.func65, Tryz.ntmps65
 try go_wp2_with (first | ((with_reducible refine gate_dst (N := 2) rfl ?_); refine bx 2 43 (rr9 0 0 0 0 0 0 0 0 (⟨#[]⟩ : ByteArray)) ?_; intro gb323 hg w24 hbox hb; have BK323 := AA hbox; have GW323 := GS hg HB; have GE323 := GS hg HB; replace HB := BS HB hb; clear hb hbox hg) | ((with_reducible refine gkx 66 rfl ?_); refine gL 13 Tryz.func66 rfl (weighbridgeref04_Sizes.calls a0 t324 t325 t326 _ A2.out) ?_; rintro w' ⟨nd, rfl⟩; (try (rw [drewN_self w24]; generalize hq_ : World.drewN w24 _ = w24; have n0_ : Aside0 (w24.heap[gb323]? = some (.cells (rr9 0 0 0 0 0 0 0 0 (⟨#[]⟩ : ByteArray)) 43 (0, 0))) := ⟨by rw [← hq_]; exact (BD BK323)⟩; have n1_ : Aside0 (Below w.heap.size w w24) := ⟨by rw [← hq_]; exact (BW HB)⟩; clear BK323 HB hq_; have BK323 := n0_; have HB := n1_; clear n0_ n1_))) | ((with_reducible refine gkx 48 rfl ?_); refine gL 24 Tryz.func48 rfl (weighbridgeref03_Sum.calls (a0.extract 0 (t324 : Int).toNat) t327 _ A6.out) ?_; rintro w25 hb; (try clear A6); replace BK323 := AA (blk_below (g := gb323) (o := .cells (rr9 0 0 0 0 0 0 0 0 (⟨#[]⟩ : ByteArray)) 43 (0, 0)) (BD BK323) hb); replace HB := BS HB hb; (try clear hb)) | ((with_reducible refine gkx 50 rfl ?_); refine gL 30 Tryz.func50 rfl (weighbridgeref04_OptsRight.calls (a0.extract 20 (t324 : Int).toNat) true _ A10.out) ?_; rintro w' ⟨nd, rfl⟩; (try (rw [drewN_self w25]; generalize hq_ : World.drewN w25 _ = w25; have n0_ : Aside0 (w25.heap[gb323]? = some (.cells (rr9 0 0 0 0 0 0 0 0 (⟨#[]⟩ : ByteArray)) 43 (0, 0))) := ⟨by rw [← hq_]; exact (BD BK323)⟩; have n1_ : Aside0 (Below w.heap.size w w25) := ⟨by rw [← hq_]; exact (BW HB)⟩; clear BK323 HB hq_; have BK323 := n0_; have HB := n1_; clear n0_ n1_))) | ((with_reducible refine gkx 95 rfl ?_); refine gL 35 Tryz.func95 rfl (weighbridgeref04_num.calls a0 6 2 t329 _ A12.out) ?_; rintro w' ⟨nd, rfl⟩; (try (rw [drewN_self w25]; generalize hq_ : World.drewN w25 _ = w25; have n0_ : Aside0 (w25.heap[gb323]? = some (.cells (rr9 0 0 0 0 0 0 0 0 (⟨#[]⟩ : ByteArray)) 43 (0, 0))) := ⟨by rw [← hq_]; exact (BD BK323)⟩; have n1_ : Aside0 (Below w.heap.size w w25) := ⟨by rw [← hq_]; exact (BW HB)⟩; clear BK323 HB hq_; have BK323 := n0_; have HB := n1_; clear n0_ n1_))))
 replace BK323 := AA (blk_drew BK323.out)
 replace HB := AA (below_drew1 HB.out)
 refine start_ (n := 24) (S := fun w' => True) (ds := []) (bm 24 0x0) (by kernel_rfl) rfl rfl trivial (fun hHeld => ?_); refine with_tabW weighbridgeref04_Parse_p.tab10 weighbridgeref04_Parse_p.bits10 (fun HT_ HW_ => ?_)
 generalize w25.drew = w26 at BK323 HB hHeld ⊢
 refine pu 0 36 (bm 24 0x1) HT_ ?_
 refine pu 2 38 (bm 24 0x5) HT_ ?_
 refine pu 4 40 (bm 24 0x15) HT_ ?_
 refine pu 5 41 (bm 24 0x35) HT_ ?_
 refine pu 6 42 (bm 24 0x75) HT_ ?_
 refine pu 7 43 (bm 24 0xf5) HT_ ?_
 refine pu 8 44 (bm 24 0x1f5) HT_ ?_
 refine pu 10 46 (bm 24 0x5f5) HT_ ?_
 refine pu 12 48 (bm 24 0x15f5) HT_ ?_
 refine pu 15 51 (bm 24 0x95f5) HT_ ?_
 refine pu 18 54 (bm 24 0x495f5) HT_ ?_
 refine pu 19 55 (bm 24 0xc95f5) HT_ ?_
 refine pu 20 56 (bm 24 0x1c95f5) HT_ ?_
 refine join_ (σ := Nat) 1 (bm 24 0x7fffff) (fun s_ => [(37, .int .i64 t330), (39, .int .i64 t331), (45, .int .i64 t332), (47, .int .i64 t333), (49, .int .i64 t334), (52, .int .i64 t335), (10, .pointer (some ⟨s_, 0, none⟩)), (50, .int .u32 ((t334) % 4294967296)), (53, .int .u32 ((t335) % 4294967296)), (57, .agg #[.int .i64 t330, .int .i64 t331, .int .i64 (wrap64 (Int.tdiv t329 8192)), .int .i64 (Int.tmod t329 8192), .int .i64 t332, .int .i64 t333, .int .u32 ((t334) % 4294967296), .int .u32 ((t335) % 4294967296), .string (a0.extract 20 (t324 : Int).toNat)])]) (fun s_ w' => (w'.heap[gb323]? = some (.cells (rr9 0 0 0 0 0 0 0 0 (⟨#[]⟩ : ByteArray)) 43 (0, 0))) ∧ (w'.heap[s_]? = some (.cells (rr9 0 0 0 0 0 0 0 0 (⟨#[]⟩ : ByteArray)) 43 (0, 0))) ∧ (w.heap.size ≤ s_) ∧ (w.heap.size ≤ s_) ∧ (gb323 ≠ s_) ∧ (s_ ≠ gb323) ∧ (Below w.heap.size w w')) ?_ ?_
 rotate_left
 ·intro hJ1_3_9_11_13_16_22
  refine join_ (σ := Unit) 2 (bm 24 0x3fffff) (fun s_ => [(37, .int .i64 t330), (39, .int .i64 t331), (45, .int .i64 t332), (47, .int .i64 t333), (49, .int .i64 t334), (52, .int .i64 t335), (50, .int .u32 ((t334) % 4294967296)), (53, .int .u32 ((t335) % 4294967296)), (57, .agg #[.int .i64 t330, .int .i64 t331, .int .i64 (wrap64 (Int.tdiv t329 8192)), .int .i64 (Int.tmod t329 8192), .int .i64 t332, .int .i64 t333, .int .u32 ((t334) % 4294967296), .int .u32 ((t335) % 4294967296), .string (a0.extract 20 (t324 : Int).toNat)])]) (fun s_ w' => (w'.heap[gb323]? = some (.cells (rr9 0 0 0 0 0 0 0 0 (⟨#[]⟩ : ByteArray)) 43 (0, 0))) ∧ (Below w.heap.size w w')) ?_ ?_
  rotate_left
  rotate_left
  ·skip
   rintro _ w27 ⟨h0_, h1_⟩
   have n0_ : Aside0 (w27.heap[gb323]? = some (.cells (rr9 0 0 0 0 0 0 0 0 (⟨#[]⟩ : ByteArray)) 43 (0, 0))) := ⟨h0_⟩
   have n1_ : Aside0 (Below w.heap.size w w27) := ⟨h1_⟩
   clear BK323
   clear HB
   clear h0_ h1_
   have BK323 := n0_
   have HB := n1_
   clear n0_ n1_
   have hHeld := trivial
   refine norm_ (a' := ?_) ?_ ?_
   rotate_left
   ·simp only [putAll, Act.put, List.setIfInBounds_toArray, List.set_cons_zero, List.set_cons_succ]
    rfl
   refine oN 22 10 (bm 24 0x7fffff) HT_ (fun K hK => ?_)
   refine box_step ?hg (N := 10) ?hd (cs := (rr9 0 0 0 0 0 0 0 0 (⟨#[]⟩ : ByteArray))) (t := 43) ?hr ?_; (case hd => rfl); (case hg => rfl); (case hr => first | (go_simp; done) | (go_simp; rfl))
   intro gb336 hg w28 hbox hb
   have BK336 := AA hbox
   have GW336 := GS hg HB
   have GE336 := GS hg HB
   replace HB := BS HB hb
   have NB323_336 := AA (by rw [hg]; exact Nat.ne_of_lt (blk_lt (g := gb323) (o := .cells (rr9 0 0 0 0 0 0 0 0 (⟨#[]⟩ : ByteArray)) 43 (0, 0)) (BD BK323)) : gb323 ≠ gb336)
   have NB336_323 := AA (by rw [hg]; exact Nat.ne_of_gt (blk_lt (g := gb323) (o := .cells (rr9 0 0 0 0 0 0 0 0 (⟨#[]⟩ : ByteArray)) 43 (0, 0)) (BD BK323)) : gb336 ≠ gb323)
   replace BK323 := AA (blk_below (g := gb323) (o := .cells (rr9 0 0 0 0 0 0 0 0 (⟨#[]⟩ : ByteArray)) 43 (0, 0)) (BD BK323) hb)
   clear hb hbox hg
   refine hK.out _ _ trivial (fun hHeld => ?_)
   clear hK K
   refine nm 10 ?_
   exact norm_ (by first | (simp only [putAll, Act.put, List.setIfInBounds_toArray, List.set_cons_zero, List.set_cons_succ]; done) | (simp only [putAll, Act.put, List.setIfInBounds_toArray, List.set_cons_zero, List.set_cons_succ]; rfl)) (hJ1_3_9_11_13_16_22 (gb336) _ ⟨(BD BK323), (BD BK336), GW336.out, GE336.out, NB323_336.out, NB336_323.out, (BW HB)⟩)
  intro hJ1_3_9_11_13_16
  refine join_ (σ := Nat) 4 (bm 24 0x5cffff) (fun s_ => [(37, .int .i64 t330), (39, .int .i64 t331), (45, .int .i64 t332), (47, .int .i64 t333), (49, .int .i64 t334), (10, .pointer (some ⟨s_, 0, none⟩)), (50, .int .u32 ((t334) % 4294967296))]) (fun s_ w' => (w'.heap[gb323]? = some (.cells (rr9 0 0 0 0 0 0 0 0 (⟨#[]⟩ : ByteArray)) 43 (0, 0))) ∧ (w'.heap[s_]? = some (.cells (rr9 0 0 0 0 0 0 0 0 (⟨#[]⟩ : ByteArray)) 43 (0, 0))) ∧ (w.heap.size ≤ s_) ∧ (w.heap.size ≤ s_) ∧ (gb323 ≠ s_) ∧ (s_ ≠ gb323) ∧ (Below w.heap.size w w')) ?_ ?_
  rotate_left
  rotate_left
  ·skip
   rintro gb336 w28 ⟨h0_, h1_, h2_, h3_, h4_, h5_, h6_⟩
   have n0_ : Aside0 (w28.heap[gb323]? = some (.cells (rr9 0 0 0 0 0 0 0 0 (⟨#[]⟩ : ByteArray)) 43 (0, 0))) := ⟨h0_⟩
   have n1_ : Aside0 (w28.heap[gb336]? = some (.cells (rr9 0 0 0 0 0 0 0 0 (⟨#[]⟩ : ByteArray)) 43 (0, 0))) := ⟨h1_⟩
   have n2_ : Aside0 (w.heap.size ≤ gb336) := ⟨h2_⟩
   have n3_ : Aside0 (w.heap.size ≤ gb336) := ⟨h3_⟩
   have n4_ : Aside0 (gb323 ≠ gb336) := ⟨h4_⟩
   have n5_ : Aside0 (gb336 ≠ gb323) := ⟨h5_⟩
   have n6_ : Aside0 (Below w.heap.size w w28) := ⟨h6_⟩
   clear BK323
   clear HB
   clear h0_ h1_ h2_ h3_ h4_ h5_ h6_
   have BK323 := n0_
   have BK336 := n1_
   have GW336 := n2_
   have GE336 := n3_
   have NB323_336 := n4_
   have NB336_323 := n5_
   have HB := n6_
   clear n0_ n1_ n2_ n3_ n4_ n5_ n6_
   have hHeld := trivial
   refine norm_ (a' := ?_) ?_ ?_
   rotate_left
   ·simp only [putAll, Act.put, List.setIfInBounds_toArray, List.set_cons_zero, List.set_cons_succ]
    rfl
   refine oN 16 52 (bm 24 0x5dffff) HT_ (fun K hK => ?_)
   refine gR Tryz.func95 rfl rfl (weighbridgeref04_num.calls a0 16 4 t335 _ A18.out) ?_
   rintro w' ⟨nd, rfl⟩
   refine hK.out _ _ trivial (fun hHeld => ?_)
   clear hK K
   refine nm 52 ?_
   refine pu 17 53 (bm 24 0x5fffff) HT_ ?_
   refine pu 21 57 (bm 24 0x7fffff) HT_ ?_
   exact norm_ (by first | (simp only [putAll, Act.put, List.setIfInBounds_toArray, List.set_cons_zero, List.set_cons_succ]; done) | (simp only [putAll, Act.put, List.setIfInBounds_toArray, List.set_cons_zero, List.set_cons_succ]; rfl)) (hJ1_3_9_11_13_16_22 (gb336) _ ⟨(BD BK323), (BD BK336), GW336.out, GE336.out, NB323_336.out, NB336_323.out, (BW HB)⟩)
  intro hJ1_3_9_11_13_22
  refine join_ (σ := Unit) 5 (bm 24 0x1cffff) (fun s_ => [(37, .int .i64 t330), (39, .int .i64 t331), (45, .int .i64 t332), (47, .int .i64 t333), (49, .int .i64 t334), (50, .int .u32 ((t334) % 4294967296))]) (fun s_ w' => (w'.heap[gb323]? = some (.cells (rr9 0 0 0 0 0 0 0 0 (⟨#[]⟩ : ByteArray)) 43 (0, 0))) ∧ (Below w.heap.size w w')) ?_ ?_
  rotate_left
  rotate_left
  ·skip
   rintro _ w27 ⟨h0_, h1_⟩
   have n0_ : Aside0 (w27.heap[gb323]? = some (.cells (rr9 0 0 0 0 0 0 0 0 (⟨#[]⟩ : ByteArray)) 43 (0, 0))) := ⟨h0_⟩
   have n1_ : Aside0 (Below w.heap.size w w27) := ⟨h1_⟩
   clear BK323
   clear HB
   clear h0_ h1_
   have BK323 := n0_
   have HB := n1_
   clear n0_ n1_
   have hHeld := trivial
   refine norm_ (a' := ?_) ?_ ?_
   rotate_left
   ·simp only [putAll, Act.put, List.setIfInBounds_toArray, List.set_cons_zero, List.set_cons_succ]
    rfl
   refine two_ (i := 16) (j := 22) (Ni := some 52) (Nj := some 10) (bm 24 0x1dffff) (bm 24 0x5cffff) rfl rfl rfl rfl (two_of HT_.out (by kernel_rfl)) (by decide) (by decide) (fun K hK => ?_) (fun K hK => ?_)
   ·skip
    refine gR Tryz.func95 rfl rfl (weighbridgeref04_num.calls a0 16 4 t335 _ A18.out) ?_
    rintro w' ⟨nd, rfl⟩
    refine hK.out _ _ trivial (fun hHeld => ?_)
    clear hK K
    refine nm 52 ?_
    refine pu 17 53 (bm 24 0x1fffff) HT_ ?_
    refine pu 21 57 (bm 24 0x3fffff) HT_ ?_
    exact norm_ (by first | (simp only [putAll, Act.put, List.setIfInBounds_toArray, List.set_cons_zero, List.set_cons_succ]; done) | (simp only [putAll, Act.put, List.setIfInBounds_toArray, List.set_cons_zero, List.set_cons_succ]; rfl)) (hJ1_3_9_11_13_16 () _ ⟨(BD BK323), (BW HB)⟩)
   skip
   refine box_step ?hg (N := 10) ?hd (cs := (rr9 0 0 0 0 0 0 0 0 (⟨#[]⟩ : ByteArray))) (t := 43) ?hr ?_; (case hd => rfl); (case hg => rfl); (case hr => first | (go_simp; done) | (go_simp; rfl))
   intro gb336 hg w28 hbox hb
   have BK336 := AA hbox
   have GW336 := GS hg HB
   have GE336 := GS hg HB
   replace HB := BS HB hb
   have NB323_336 := AA (by rw [hg]; exact Nat.ne_of_lt (blk_lt (g := gb323) (o := .cells (rr9 0 0 0 0 0 0 0 0 (⟨#[]⟩ : ByteArray)) 43 (0, 0)) (BD BK323)) : gb323 ≠ gb336)
   have NB336_323 := AA (by rw [hg]; exact Nat.ne_of_gt (blk_lt (g := gb323) (o := .cells (rr9 0 0 0 0 0 0 0 0 (⟨#[]⟩ : ByteArray)) 43 (0, 0)) (BD BK323)) : gb336 ≠ gb323)
   replace BK323 := AA (blk_below (g := gb323) (o := .cells (rr9 0 0 0 0 0 0 0 0 (⟨#[]⟩ : ByteArray)) 43 (0, 0)) (BD BK323) hb)
   clear hb hbox hg
   refine hK.out _ _ trivial (fun hHeld => ?_)
   clear hK K
   refine nm 10 ?_
   exact norm_ (by first | (simp only [putAll, Act.put, List.setIfInBounds_toArray, List.set_cons_zero, List.set_cons_succ]; done) | (simp only [putAll, Act.put, List.setIfInBounds_toArray, List.set_cons_zero, List.set_cons_succ]; rfl)) (hJ1_3_9_11_13_22 (gb336) _ ⟨(BD BK323), (BD BK336), GW336.out, GE336.out, NB323_336.out, NB336_323.out, (BW HB)⟩)
  intro hJ1_3_9_11_13
  refine join_ (σ := Nat) 6 (bm 24 0x5c9fff) (fun s_ => [(37, .int .i64 t330), (39, .int .i64 t331), (45, .int .i64 t332), (47, .int .i64 t333), (10, .pointer (some ⟨s_, 0, none⟩))]) (fun s_ w' => (w'.heap[gb323]? = some (.cells (rr9 0 0 0 0 0 0 0 0 (⟨#[]⟩ : ByteArray)) 43 (0, 0))) ∧ (w'.heap[s_]? = some (.cells (rr9 0 0 0 0 0 0 0 0 (⟨#[]⟩ : ByteArray)) 43 (0, 0))) ∧ (w.heap.size ≤ s_) ∧ (w.heap.size ≤ s_) ∧ (gb323 ≠ s_) ∧ (s_ ≠ gb323) ∧ (Below w.heap.size w w')) ?_ ?_
  rotate_left
  rotate_left
  ·skip
   rintro gb336 w28 ⟨h0_, h1_, h2_, h3_, h4_, h5_, h6_⟩
   have n0_ : Aside0 (w28.heap[gb323]? = some (.cells (rr9 0 0 0 0 0 0 0 0 (⟨#[]⟩ : ByteArray)) 43 (0, 0))) := ⟨h0_⟩
   have n1_ : Aside0 (w28.heap[gb336]? = some (.cells (rr9 0 0 0 0 0 0 0 0 (⟨#[]⟩ : ByteArray)) 43 (0, 0))) := ⟨h1_⟩
   have n2_ : Aside0 (w.heap.size ≤ gb336) := ⟨h2_⟩
   have n3_ : Aside0 (w.heap.size ≤ gb336) := ⟨h3_⟩
   have n4_ : Aside0 (gb323 ≠ gb336) := ⟨h4_⟩
   have n5_ : Aside0 (gb336 ≠ gb323) := ⟨h5_⟩
   have n6_ : Aside0 (Below w.heap.size w w28) := ⟨h6_⟩
   clear BK323
   clear HB
   clear h0_ h1_ h2_ h3_ h4_ h5_ h6_
   have BK323 := n0_
   have BK336 := n1_
   have GW336 := n2_
   have GE336 := n3_
   have NB323_336 := n4_
   have NB336_323 := n5_
   have HB := n6_
   clear n0_ n1_ n2_ n3_ n4_ n5_ n6_
   have hHeld := trivial
   refine norm_ (a' := ?_) ?_ ?_
   rotate_left
   ·simp only [putAll, Act.put, List.setIfInBounds_toArray, List.set_cons_zero, List.set_cons_succ]
    rfl
   refine oN 13 49 (bm 24 0x5cbfff) HT_ (fun K hK => ?_)
   refine gR Tryz.func95 rfl rfl (weighbridgeref04_num.calls a0 12 4 t334 _ A17.out) ?_
   rintro w' ⟨nd, rfl⟩
   refine hK.out _ _ trivial (fun hHeld => ?_)
   clear hK K
   refine nm 49 ?_
   refine pu 14 50 (bm 24 0x5cffff) HT_ ?_
   exact norm_ (by first | (simp only [putAll, Act.put, List.setIfInBounds_toArray, List.set_cons_zero, List.set_cons_succ]; done) | (simp only [putAll, Act.put, List.setIfInBounds_toArray, List.set_cons_zero, List.set_cons_succ]; rfl)) (hJ1_3_9_11_13_22 (gb336) _ ⟨(BD BK323), (BD BK336), GW336.out, GE336.out, NB323_336.out, NB336_323.out, (BW HB)⟩)
  intro hJ1_3_9_11_22
  refine join_ (σ := Unit) 7 (bm 24 0x1c9fff) (fun s_ => [(37, .int .i64 t330), (39, .int .i64 t331), (45, .int .i64 t332), (47, .int .i64 t333)]) (fun s_ w' => (w'.heap[gb323]? = some (.cells (rr9 0 0 0 0 0 0 0 0 (⟨#[]⟩ : ByteArray)) 43 (0, 0))) ∧ (Below w.heap.size w w')) ?_ ?_
  rotate_left
  rotate_left
  ·skip
   rintro _ w27 ⟨h0_, h1_⟩
   have n0_ : Aside0 (w27.heap[gb323]? = some (.cells (rr9 0 0 0 0 0 0 0 0 (⟨#[]⟩ : ByteArray)) 43 (0, 0))) := ⟨h0_⟩
   have n1_ : Aside0 (Below w.heap.size w w27) := ⟨h1_⟩
   clear BK323
   clear HB
   clear h0_ h1_
   have BK323 := n0_
   have HB := n1_
   clear n0_ n1_
   have hHeld := trivial
   refine norm_ (a' := ?_) ?_ ?_
   rotate_left
   ·simp only [putAll, Act.put, List.setIfInBounds_toArray, List.set_cons_zero, List.set_cons_succ]
    rfl
   refine two_ (i := 13) (j := 22) (Ni := some 49) (Nj := some 10) (bm 24 0x1cbfff) (bm 24 0x5c9fff) rfl rfl rfl rfl (two_of HT_.out (by kernel_rfl)) (by decide) (by decide) (fun K hK => ?_) (fun K hK => ?_)
   ·skip
    refine gR Tryz.func95 rfl rfl (weighbridgeref04_num.calls a0 12 4 t334 _ A17.out) ?_
    rintro w' ⟨nd, rfl⟩
    refine hK.out _ _ trivial (fun hHeld => ?_)
    clear hK K
    refine nm 49 ?_
    refine pu 14 50 (bm 24 0x1cffff) HT_ ?_
    exact norm_ (by first | (simp only [putAll, Act.put, List.setIfInBounds_toArray, List.set_cons_zero, List.set_cons_succ]; done) | (simp only [putAll, Act.put, List.setIfInBounds_toArray, List.set_cons_zero, List.set_cons_succ]; rfl)) (hJ1_3_9_11_13 () _ ⟨(BD BK323), (BW HB)⟩)
   skip
   refine box_step ?hg (N := 10) ?hd (cs := (rr9 0 0 0 0 0 0 0 0 (⟨#[]⟩ : ByteArray))) (t := 43) ?hr ?_; (case hd => rfl); (case hg => rfl); (case hr => first | (go_simp; done) | (go_simp; rfl))
   intro gb336 hg w28 hbox hb
   have BK336 := AA hbox
   have GW336 := GS hg HB
   have GE336 := GS hg HB
   replace HB := BS HB hb
   have NB323_336 := AA (by rw [hg]; exact Nat.ne_of_lt (blk_lt (g := gb323) (o := .cells (rr9 0 0 0 0 0 0 0 0 (⟨#[]⟩ : ByteArray)) 43 (0, 0)) (BD BK323)) : gb323 ≠ gb336)
   have NB336_323 := AA (by rw [hg]; exact Nat.ne_of_gt (blk_lt (g := gb323) (o := .cells (rr9 0 0 0 0 0 0 0 0 (⟨#[]⟩ : ByteArray)) 43 (0, 0)) (BD BK323)) : gb336 ≠ gb323)
   replace BK323 := AA (blk_below (g := gb323) (o := .cells (rr9 0 0 0 0 0 0 0 0 (⟨#[]⟩ : ByteArray)) 43 (0, 0)) (BD BK323) hb)
   clear hb hbox hg
   refine hK.out _ _ trivial (fun hHeld => ?_)
   clear hK K
   refine nm 10 ?_
   exact norm_ (by first | (simp only [putAll, Act.put, List.setIfInBounds_toArray, List.set_cons_zero, List.set_cons_succ]; done) | (simp only [putAll, Act.put, List.setIfInBounds_toArray, List.set_cons_zero, List.set_cons_succ]; rfl)) (hJ1_3_9_11_22 (gb336) _ ⟨(BD BK323), (BD BK336), GW336.out, GE336.out, NB323_336.out, NB336_323.out, (BW HB)⟩)
  intro hJ1_3_9_11
  refine join_ (σ := Nat) 7 (bm 24 0x5c97ff) (fun s_ => [(37, .int .i64 t330), (39, .int .i64 t331), (45, .int .i64 t332), (10, .pointer (some ⟨s_, 0, none⟩))]) (fun s_ w' => (w'.heap[gb323]? = some (.cells (rr9 0 0 0 0 0 0 0 0 (⟨#[]⟩ : ByteArray)) 43 (0, 0))) ∧ (w'.heap[s_]? = some (.cells (rr9 0 0 0 0 0 0 0 0 (⟨#[]⟩ : ByteArray)) 43 (0, 0))) ∧ (w.heap.size ≤ s_) ∧ (w.heap.size ≤ s_) ∧ (gb323 ≠ s_) ∧ (s_ ≠ gb323) ∧ (Below w.heap.size w w')) ?_ ?_
  rotate_left
  rotate_left
  ·skip
   rintro gb336 w28 ⟨h0_, h1_, h2_, h3_, h4_, h5_, h6_⟩
   have n0_ : Aside0 (w28.heap[gb323]? = some (.cells (rr9 0 0 0 0 0 0 0 0 (⟨#[]⟩ : ByteArray)) 43 (0, 0))) := ⟨h0_⟩
   have n1_ : Aside0 (w28.heap[gb336]? = some (.cells (rr9 0 0 0 0 0 0 0 0 (⟨#[]⟩ : ByteArray)) 43 (0, 0))) := ⟨h1_⟩
   have n2_ : Aside0 (w.heap.size ≤ gb336) := ⟨h2_⟩
   have n3_ : Aside0 (w.heap.size ≤ gb336) := ⟨h3_⟩
   have n4_ : Aside0 (gb323 ≠ gb336) := ⟨h4_⟩
   have n5_ : Aside0 (gb336 ≠ gb323) := ⟨h5_⟩
   have n6_ : Aside0 (Below w.heap.size w w28) := ⟨h6_⟩
   clear BK323
   clear HB
   clear h0_ h1_ h2_ h3_ h4_ h5_ h6_
   have BK323 := n0_
   have BK336 := n1_
   have GW336 := n2_
   have GE336 := n3_
   have NB323_336 := n4_
   have NB336_323 := n5_
   have HB := n6_
   clear n0_ n1_ n2_ n3_ n4_ n5_ n6_
   have hHeld := trivial
   refine norm_ (a' := ?_) ?_ ?_
   rotate_left
   ·simp only [putAll, Act.put, List.setIfInBounds_toArray, List.set_cons_zero, List.set_cons_succ]
    rfl
   refine oN 11 47 (bm 24 0x5c9fff) HT_ (fun K hK => ?_)
   refine gR Tryz.func95 rfl rfl (weighbridgeref04_num.calls a0 9 1 t333 _ A16.out) ?_
   rintro w' ⟨nd, rfl⟩
   refine hK.out _ _ trivial (fun hHeld => ?_)
   clear hK K
   refine nm 47 ?_
   exact norm_ (by first | (simp only [putAll, Act.put, List.setIfInBounds_toArray, List.set_cons_zero, List.set_cons_succ]; done) | (simp only [putAll, Act.put, List.setIfInBounds_toArray, List.set_cons_zero, List.set_cons_succ]; rfl)) (hJ1_3_9_11_22 (gb336) _ ⟨(BD BK323), (BD BK336), GW336.out, GE336.out, NB323_336.out, NB336_323.out, (BW HB)⟩)
  intro hJ1_3_9_22
  refine join_ (σ := Unit) 8 (bm 24 0x1c97ff) (fun s_ => [(37, .int .i64 t330), (39, .int .i64 t331), (45, .int .i64 t332)]) (fun s_ w' => (w'.heap[gb323]? = some (.cells (rr9 0 0 0 0 0 0 0 0 (⟨#[]⟩ : ByteArray)) 43 (0, 0))) ∧ (Below w.heap.size w w')) ?_ ?_
  rotate_left
  rotate_left
  ·skip
   rintro _ w27 ⟨h0_, h1_⟩
   have n0_ : Aside0 (w27.heap[gb323]? = some (.cells (rr9 0 0 0 0 0 0 0 0 (⟨#[]⟩ : ByteArray)) 43 (0, 0))) := ⟨h0_⟩
   have n1_ : Aside0 (Below w.heap.size w w27) := ⟨h1_⟩
   clear BK323
   clear HB
   clear h0_ h1_
   have BK323 := n0_
   have HB := n1_
   clear n0_ n1_
   have hHeld := trivial
   refine norm_ (a' := ?_) ?_ ?_
   rotate_left
   ·simp only [putAll, Act.put, List.setIfInBounds_toArray, List.set_cons_zero, List.set_cons_succ]
    rfl
   refine two_ (i := 11) (j := 22) (Ni := some 47) (Nj := some 10) (bm 24 0x1c9fff) (bm 24 0x5c97ff) rfl rfl rfl rfl (two_of HT_.out (by kernel_rfl)) (by decide) (by decide) (fun K hK => ?_) (fun K hK => ?_)
   ·skip
    refine gR Tryz.func95 rfl rfl (weighbridgeref04_num.calls a0 9 1 t333 _ A16.out) ?_
    rintro w' ⟨nd, rfl⟩
    refine hK.out _ _ trivial (fun hHeld => ?_)
    clear hK K
    refine nm 47 ?_
    exact norm_ (by first | (simp only [putAll, Act.put, List.setIfInBounds_toArray, List.set_cons_zero, List.set_cons_succ]; done) | (simp only [putAll, Act.put, List.setIfInBounds_toArray, List.set_cons_zero, List.set_cons_succ]; rfl)) (hJ1_3_9_11 () _ ⟨(BD BK323), (BW HB)⟩)
   skip
   refine box_step ?hg (N := 10) ?hd (cs := (rr9 0 0 0 0 0 0 0 0 (⟨#[]⟩ : ByteArray))) (t := 43) ?hr ?_; (case hd => rfl); (case hg => rfl); (case hr => first | (go_simp; done) | (go_simp; rfl))
   intro gb336 hg w28 hbox hb
   have BK336 := AA hbox
   have GW336 := GS hg HB
   have GE336 := GS hg HB
   replace HB := BS HB hb
   have NB323_336 := AA (by rw [hg]; exact Nat.ne_of_lt (blk_lt (g := gb323) (o := .cells (rr9 0 0 0 0 0 0 0 0 (⟨#[]⟩ : ByteArray)) 43 (0, 0)) (BD BK323)) : gb323 ≠ gb336)
   have NB336_323 := AA (by rw [hg]; exact Nat.ne_of_gt (blk_lt (g := gb323) (o := .cells (rr9 0 0 0 0 0 0 0 0 (⟨#[]⟩ : ByteArray)) 43 (0, 0)) (BD BK323)) : gb336 ≠ gb323)
   replace BK323 := AA (blk_below (g := gb323) (o := .cells (rr9 0 0 0 0 0 0 0 0 (⟨#[]⟩ : ByteArray)) 43 (0, 0)) (BD BK323) hb)
   clear hb hbox hg
   refine hK.out _ _ trivial (fun hHeld => ?_)
   clear hK K
   refine nm 10 ?_
   exact norm_ (by first | (simp only [putAll, Act.put, List.setIfInBounds_toArray, List.set_cons_zero, List.set_cons_succ]; done) | (simp only [putAll, Act.put, List.setIfInBounds_toArray, List.set_cons_zero, List.set_cons_succ]; rfl)) (hJ1_3_9_22 (gb336) _ ⟨(BD BK323), (BD BK336), GW336.out, GE336.out, NB323_336.out, NB336_323.out, (BW HB)⟩)
  intro hJ1_3_9
  refine join_ (σ := Nat) 8 (bm 24 0x5c95ff) (fun s_ => [(37, .int .i64 t330), (39, .int .i64 t331), (10, .pointer (some ⟨s_, 0, none⟩))]) (fun s_ w' => (w'.heap[gb323]? = some (.cells (rr9 0 0 0 0 0 0 0 0 (⟨#[]⟩ : ByteArray)) 43 (0, 0))) ∧ (w'.heap[s_]? = some (.cells (rr9 0 0 0 0 0 0 0 0 (⟨#[]⟩ : ByteArray)) 43 (0, 0))) ∧ (w.heap.size ≤ s_) ∧ (w.heap.size ≤ s_) ∧ (gb323 ≠ s_) ∧ (s_ ≠ gb323) ∧ (Below w.heap.size w w')) ?_ ?_
  rotate_left
  rotate_left
  ·skip
   rintro gb336 w28 ⟨h0_, h1_, h2_, h3_, h4_, h5_, h6_⟩
   have n0_ : Aside0 (w28.heap[gb323]? = some (.cells (rr9 0 0 0 0 0 0 0 0 (⟨#[]⟩ : ByteArray)) 43 (0, 0))) := ⟨h0_⟩
   have n1_ : Aside0 (w28.heap[gb336]? = some (.cells (rr9 0 0 0 0 0 0 0 0 (⟨#[]⟩ : ByteArray)) 43 (0, 0))) := ⟨h1_⟩
   have n2_ : Aside0 (w.heap.size ≤ gb336) := ⟨h2_⟩
   have n3_ : Aside0 (w.heap.size ≤ gb336) := ⟨h3_⟩
   have n4_ : Aside0 (gb323 ≠ gb336) := ⟨h4_⟩
   have n5_ : Aside0 (gb336 ≠ gb323) := ⟨h5_⟩
   have n6_ : Aside0 (Below w.heap.size w w28) := ⟨h6_⟩
   clear BK323
   clear HB
   clear h0_ h1_ h2_ h3_ h4_ h5_ h6_
   have BK323 := n0_
   have BK336 := n1_
   have GW336 := n2_
   have GE336 := n3_
   have NB323_336 := n4_
   have NB336_323 := n5_
   have HB := n6_
   clear n0_ n1_ n2_ n3_ n4_ n5_ n6_
   have hHeld := trivial
   refine norm_ (a' := ?_) ?_ ?_
   rotate_left
   ·simp only [putAll, Act.put, List.setIfInBounds_toArray, List.set_cons_zero, List.set_cons_succ]
    rfl
   refine oN 9 45 (bm 24 0x5c97ff) HT_ (fun K hK => ?_)
   refine gR Tryz.func95 rfl rfl (weighbridgeref04_num.calls a0 8 1 t332 _ A15.out) ?_
   rintro w' ⟨nd, rfl⟩
   refine hK.out _ _ trivial (fun hHeld => ?_)
   clear hK K
   refine nm 45 ?_
   exact norm_ (by first | (simp only [putAll, Act.put, List.setIfInBounds_toArray, List.set_cons_zero, List.set_cons_succ]; done) | (simp only [putAll, Act.put, List.setIfInBounds_toArray, List.set_cons_zero, List.set_cons_succ]; rfl)) (hJ1_3_9_22 (gb336) _ ⟨(BD BK323), (BD BK336), GW336.out, GE336.out, NB323_336.out, NB336_323.out, (BW HB)⟩)
  intro hJ1_3_22
  refine join_ (σ := Unit) 9 (bm 24 0x1c95ff) (fun s_ => [(37, .int .i64 t330), (39, .int .i64 t331)]) (fun s_ w' => (w'.heap[gb323]? = some (.cells (rr9 0 0 0 0 0 0 0 0 (⟨#[]⟩ : ByteArray)) 43 (0, 0))) ∧ (Below w.heap.size w w')) ?_ ?_
  rotate_left
  rotate_left
  ·skip
   rintro _ w27 ⟨h0_, h1_⟩
   have n0_ : Aside0 (w27.heap[gb323]? = some (.cells (rr9 0 0 0 0 0 0 0 0 (⟨#[]⟩ : ByteArray)) 43 (0, 0))) := ⟨h0_⟩
   have n1_ : Aside0 (Below w.heap.size w w27) := ⟨h1_⟩
   clear BK323
   clear HB
   clear h0_ h1_
   have BK323 := n0_
   have HB := n1_
   clear n0_ n1_
   have hHeld := trivial
   refine norm_ (a' := ?_) ?_ ?_
   rotate_left
   ·simp only [putAll, Act.put, List.setIfInBounds_toArray, List.set_cons_zero, List.set_cons_succ]
    rfl
   refine two_ (i := 9) (j := 22) (Ni := some 45) (Nj := some 10) (bm 24 0x1c97ff) (bm 24 0x5c95ff) rfl rfl rfl rfl (two_of HT_.out (by kernel_rfl)) (by decide) (by decide) (fun K hK => ?_) (fun K hK => ?_)
   ·skip
    refine gR Tryz.func95 rfl rfl (weighbridgeref04_num.calls a0 8 1 t332 _ A15.out) ?_
    rintro w' ⟨nd, rfl⟩
    refine hK.out _ _ trivial (fun hHeld => ?_)
    clear hK K
    refine nm 45 ?_
    exact norm_ (by first | (simp only [putAll, Act.put, List.setIfInBounds_toArray, List.set_cons_zero, List.set_cons_succ]; done) | (simp only [putAll, Act.put, List.setIfInBounds_toArray, List.set_cons_zero, List.set_cons_succ]; rfl)) (hJ1_3_9 () _ ⟨(BD BK323), (BW HB)⟩)
   skip
   refine box_step ?hg (N := 10) ?hd (cs := (rr9 0 0 0 0 0 0 0 0 (⟨#[]⟩ : ByteArray))) (t := 43) ?hr ?_; (case hd => rfl); (case hg => rfl); (case hr => first | (go_simp; done) | (go_simp; rfl))
   intro gb336 hg w28 hbox hb
   have BK336 := AA hbox
   have GW336 := GS hg HB
   have GE336 := GS hg HB
   replace HB := BS HB hb
   have NB323_336 := AA (by rw [hg]; exact Nat.ne_of_lt (blk_lt (g := gb323) (o := .cells (rr9 0 0 0 0 0 0 0 0 (⟨#[]⟩ : ByteArray)) 43 (0, 0)) (BD BK323)) : gb323 ≠ gb336)
   have NB336_323 := AA (by rw [hg]; exact Nat.ne_of_gt (blk_lt (g := gb323) (o := .cells (rr9 0 0 0 0 0 0 0 0 (⟨#[]⟩ : ByteArray)) 43 (0, 0)) (BD BK323)) : gb336 ≠ gb323)
   replace BK323 := AA (blk_below (g := gb323) (o := .cells (rr9 0 0 0 0 0 0 0 0 (⟨#[]⟩ : ByteArray)) 43 (0, 0)) (BD BK323) hb)
   clear hb hbox hg
   refine hK.out _ _ trivial (fun hHeld => ?_)
   clear hK K
   refine nm 10 ?_
   exact norm_ (by first | (simp only [putAll, Act.put, List.setIfInBounds_toArray, List.set_cons_zero, List.set_cons_succ]; done) | (simp only [putAll, Act.put, List.setIfInBounds_toArray, List.set_cons_zero, List.set_cons_succ]; rfl)) (hJ1_3_22 (gb336) _ ⟨(BD BK323), (BD BK336), GW336.out, GE336.out, NB323_336.out, NB336_323.out, (BW HB)⟩)
  intro hJ1_3
  refine join_ (σ := Nat) 9 (bm 24 0x5c95f7) (fun s_ => [(37, .int .i64 t330), (10, .pointer (some ⟨s_, 0, none⟩))]) (fun s_ w' => (w'.heap[gb323]? = some (.cells (rr9 0 0 0 0 0 0 0 0 (⟨#[]⟩ : ByteArray)) 43 (0, 0))) ∧ (w'.heap[s_]? = some (.cells (rr9 0 0 0 0 0 0 0 0 (⟨#[]⟩ : ByteArray)) 43 (0, 0))) ∧ (w.heap.size ≤ s_) ∧ (w.heap.size ≤ s_) ∧ (gb323 ≠ s_) ∧ (s_ ≠ gb323) ∧ (Below w.heap.size w w')) ?_ ?_
  rotate_left
  rotate_left
  ·skip
   rintro gb336 w28 ⟨h0_, h1_, h2_, h3_, h4_, h5_, h6_⟩
   have n0_ : Aside0 (w28.heap[gb323]? = some (.cells (rr9 0 0 0 0 0 0 0 0 (⟨#[]⟩ : ByteArray)) 43 (0, 0))) := ⟨h0_⟩
   have n1_ : Aside0 (w28.heap[gb336]? = some (.cells (rr9 0 0 0 0 0 0 0 0 (⟨#[]⟩ : ByteArray)) 43 (0, 0))) := ⟨h1_⟩
   have n2_ : Aside0 (w.heap.size ≤ gb336) := ⟨h2_⟩
   have n3_ : Aside0 (w.heap.size ≤ gb336) := ⟨h3_⟩
   have n4_ : Aside0 (gb323 ≠ gb336) := ⟨h4_⟩
   have n5_ : Aside0 (gb336 ≠ gb323) := ⟨h5_⟩
   have n6_ : Aside0 (Below w.heap.size w w28) := ⟨h6_⟩
   clear BK323
   clear HB
   clear h0_ h1_ h2_ h3_ h4_ h5_ h6_
   have BK323 := n0_
   have BK336 := n1_
   have GW336 := n2_
   have GE336 := n3_
   have NB323_336 := n4_
   have NB336_323 := n5_
   have HB := n6_
   clear n0_ n1_ n2_ n3_ n4_ n5_ n6_
   have hHeld := trivial
   refine norm_ (a' := ?_) ?_ ?_
   rotate_left
   ·simp only [putAll, Act.put, List.setIfInBounds_toArray, List.set_cons_zero, List.set_cons_succ]
    rfl
   refine oN 3 39 (bm 24 0x5c95ff) HT_ (fun K hK => ?_)
   refine gR Tryz.func95 rfl rfl (weighbridgeref04_num.calls a0 4 2 t331 _ A14.out) ?_
   rintro w' ⟨nd, rfl⟩
   refine hK.out _ _ trivial (fun hHeld => ?_)
   clear hK K
   refine nm 39 ?_
   exact norm_ (by first | (simp only [putAll, Act.put, List.setIfInBounds_toArray, List.set_cons_zero, List.set_cons_succ]; done) | (simp only [putAll, Act.put, List.setIfInBounds_toArray, List.set_cons_zero, List.set_cons_succ]; rfl)) (hJ1_3_22 (gb336) _ ⟨(BD BK323), (BD BK336), GW336.out, GE336.out, NB323_336.out, NB336_323.out, (BW HB)⟩)
  intro hJ1_22
  refine join_ (σ := Unit) 10 (bm 24 0x1c95f7) (fun s_ => [(37, .int .i64 t330)]) (fun s_ w' => (w'.heap[gb323]? = some (.cells (rr9 0 0 0 0 0 0 0 0 (⟨#[]⟩ : ByteArray)) 43 (0, 0))) ∧ (Below w.heap.size w w')) ?_ ?_
  rotate_left
  ·intro hJ1
   refine join_ (σ := Nat) 10 (bm 24 0x5c95f5) (fun s_ => [(10, .pointer (some ⟨s_, 0, none⟩))]) (fun s_ w' => (w'.heap[gb323]? = some (.cells (rr9 0 0 0 0 0 0 0 0 (⟨#[]⟩ : ByteArray)) 43 (0, 0))) ∧ (w'.heap[s_]? = some (.cells (rr9 0 0 0 0 0 0 0 0 (⟨#[]⟩ : ByteArray)) 43 (0, 0))) ∧ (w.heap.size ≤ s_) ∧ (w.heap.size ≤ s_) ∧ (gb323 ≠ s_) ∧ (s_ ≠ gb323) ∧ (Below w.heap.size w w')) ?_ ?_
   rotate_left
   ·intro hJ22
    refine two_ (i := 1) (j := 22) (Ni := some 37) (Nj := some 10) (bm 24 0x1c95f7) (bm 24 0x5c95f5) rfl rfl rfl rfl (two_of HT_.out (by kernel_rfl)) (by decide) (by decide) (fun K hK => ?_) (fun K hK => ?_)
    ·skip
     refine gR Tryz.func95 rfl rfl (weighbridgeref04_num.calls a0 1 1 t330 _ A13.out) ?_
     rintro w' ⟨nd, rfl⟩
     refine hK.out _ _ trivial (fun hHeld => ?_)
     clear hK K
     refine nm 37 ?_
     exact norm_ (by first | (simp only [putAll, Act.put, List.setIfInBounds_toArray, List.set_cons_zero, List.set_cons_succ]; done) | (simp only [putAll, Act.put, List.setIfInBounds_toArray, List.set_cons_zero, List.set_cons_succ]; rfl)) (hJ1 () _ ⟨(BD BK323), (BW HB)⟩)
    skip
    refine box_step ?hg (N := 10) ?hd (cs := (rr9 0 0 0 0 0 0 0 0 (⟨#[]⟩ : ByteArray))) (t := 43) ?hr ?_; (case hd => rfl); (case hg => rfl); (case hr => first | (go_simp; done) | (go_simp; rfl))
    intro gb336 hg w27 hbox hb
    have BK336 := AA hbox
    have GW336 := GS hg HB
    have GE336 := GS hg HB
    replace HB := BS HB hb
    have NB323_336 := AA (by rw [hg]; exact Nat.ne_of_lt (blk_lt (g := gb323) (o := .cells (rr9 0 0 0 0 0 0 0 0 (⟨#[]⟩ : ByteArray)) 43 (0, 0)) (BD BK323)) : gb323 ≠ gb336)
    have NB336_323 := AA (by rw [hg]; exact Nat.ne_of_gt (blk_lt (g := gb323) (o := .cells (rr9 0 0 0 0 0 0 0 0 (⟨#[]⟩ : ByteArray)) 43 (0, 0)) (BD BK323)) : gb336 ≠ gb323)
    replace BK323 := AA (blk_below (g := gb323) (o := .cells (rr9 0 0 0 0 0 0 0 0 (⟨#[]⟩ : ByteArray)) 43 (0, 0)) (BD BK323) hb)
    clear hb hbox hg
    refine hK.out _ _ trivial (fun hHeld => ?_)
    clear hK K
    refine nm 10 ?_
    exact norm_ (by first | (simp only [putAll, Act.put, List.setIfInBounds_toArray, List.set_cons_zero, List.set_cons_succ]; done) | (simp only [putAll, Act.put, List.setIfInBounds_toArray, List.set_cons_zero, List.set_cons_succ]; rfl)) (hJ22 (gb336) _ ⟨(BD BK323), (BD BK336), GW336.out, GE336.out, NB323_336.out, NB336_323.out, (BW HB)⟩)
   skip
   rintro gb336 w28 ⟨h0_, h1_, h2_, h3_, h4_, h5_, h6_⟩
   have n0_ : Aside0 (w28.heap[gb323]? = some (.cells (rr9 0 0 0 0 0 0 0 0 (⟨#[]⟩ : ByteArray)) 43 (0, 0))) := ⟨h0_⟩
   have n1_ : Aside0 (w28.heap[gb336]? = some (.cells (rr9 0 0 0 0 0 0 0 0 (⟨#[]⟩ : ByteArray)) 43 (0, 0))) := ⟨h1_⟩
   have n2_ : Aside0 (w.heap.size ≤ gb336) := ⟨h2_⟩
   have n3_ : Aside0 (w.heap.size ≤ gb336) := ⟨h3_⟩
   have n4_ : Aside0 (gb323 ≠ gb336) := ⟨h4_⟩
   have n5_ : Aside0 (gb336 ≠ gb323) := ⟨h5_⟩
   have n6_ : Aside0 (Below w.heap.size w w28) := ⟨h6_⟩
   clear BK323
   clear HB
   clear h0_ h1_ h2_ h3_ h4_ h5_ h6_
   have BK323 := n0_
   have BK336 := n1_
   have GW336 := n2_
   have GE336 := n3_
   have NB323_336 := n4_
   have NB336_323 := n5_
   have HB := n6_
   clear n0_ n1_ n2_ n3_ n4_ n5_ n6_
   have hHeld := trivial
   refine norm_ (a' := ?_) ?_ ?_
   rotate_left
   ·simp only [putAll, Act.put, List.setIfInBounds_toArray, List.set_cons_zero, List.set_cons_succ]
    rfl
   refine oN 1 37 (bm 24 0x5c95f7) HT_ (fun K hK => ?_)
   refine gR Tryz.func95 rfl rfl (weighbridgeref04_num.calls a0 1 1 t330 _ A13.out) ?_
   rintro w' ⟨nd, rfl⟩
   refine hK.out _ _ trivial (fun hHeld => ?_)
   clear hK K
   refine nm 37 ?_
   exact norm_ (by first | (simp only [putAll, Act.put, List.setIfInBounds_toArray, List.set_cons_zero, List.set_cons_succ]; done) | (simp only [putAll, Act.put, List.setIfInBounds_toArray, List.set_cons_zero, List.set_cons_succ]; rfl)) (hJ1_22 (gb336) _ ⟨(BD BK323), (BD BK336), GW336.out, GE336.out, NB323_336.out, NB336_323.out, (BW HB)⟩)
  skip
  rintro _ w27 ⟨h0_, h1_⟩
  have n0_ : Aside0 (w27.heap[gb323]? = some (.cells (rr9 0 0 0 0 0 0 0 0 (⟨#[]⟩ : ByteArray)) 43 (0, 0))) := ⟨h0_⟩
  have n1_ : Aside0 (Below w.heap.size w w27) := ⟨h1_⟩
  clear BK323
  clear HB
  clear h0_ h1_
  have BK323 := n0_
  have HB := n1_
  clear n0_ n1_
  have hHeld := trivial
  refine norm_ (a' := ?_) ?_ ?_
  rotate_left
  ·simp only [putAll, Act.put, List.setIfInBounds_toArray, List.set_cons_zero, List.set_cons_succ]
   rfl
  refine two_ (i := 3) (j := 22) (Ni := some 39) (Nj := some 10) (bm 24 0x1c95ff) (bm 24 0x5c95f7) rfl rfl rfl rfl (two_of HT_.out (by kernel_rfl)) (by decide) (by decide) (fun K hK => ?_) (fun K hK => ?_)
  ·skip
   refine gR Tryz.func95 rfl rfl (weighbridgeref04_num.calls a0 4 2 t331 _ A14.out) ?_
   rintro w' ⟨nd, rfl⟩
   refine hK.out _ _ trivial (fun hHeld => ?_)
   clear hK K
   refine nm 39 ?_
   exact norm_ (by first | (simp only [putAll, Act.put, List.setIfInBounds_toArray, List.set_cons_zero, List.set_cons_succ]; done) | (simp only [putAll, Act.put, List.setIfInBounds_toArray, List.set_cons_zero, List.set_cons_succ]; rfl)) (hJ1_3 () _ ⟨(BD BK323), (BW HB)⟩)
  skip
  refine box_step ?hg (N := 10) ?hd (cs := (rr9 0 0 0 0 0 0 0 0 (⟨#[]⟩ : ByteArray))) (t := 43) ?hr ?_; (case hd => rfl); (case hg => rfl); (case hr => first | (go_simp; done) | (go_simp; rfl))
  intro gb336 hg w28 hbox hb
  have BK336 := AA hbox
  have GW336 := GS hg HB
  have GE336 := GS hg HB
  replace HB := BS HB hb
  have NB323_336 := AA (by rw [hg]; exact Nat.ne_of_lt (blk_lt (g := gb323) (o := .cells (rr9 0 0 0 0 0 0 0 0 (⟨#[]⟩ : ByteArray)) 43 (0, 0)) (BD BK323)) : gb323 ≠ gb336)
  have NB336_323 := AA (by rw [hg]; exact Nat.ne_of_gt (blk_lt (g := gb323) (o := .cells (rr9 0 0 0 0 0 0 0 0 (⟨#[]⟩ : ByteArray)) 43 (0, 0)) (BD BK323)) : gb336 ≠ gb323)
  replace BK323 := AA (blk_below (g := gb323) (o := .cells (rr9 0 0 0 0 0 0 0 0 (⟨#[]⟩ : ByteArray)) 43 (0, 0)) (BD BK323) hb)
  clear hb hbox hg
  refine hK.out _ _ trivial (fun hHeld => ?_)
  clear hK K
  refine nm 10 ?_
  exact norm_ (by first | (simp only [putAll, Act.put, List.setIfInBounds_toArray, List.set_cons_zero, List.set_cons_succ]; done) | (simp only [putAll, Act.put, List.setIfInBounds_toArray, List.set_cons_zero, List.set_cons_succ]; rfl)) (hJ1_22 (gb336) _ ⟨(BD BK323), (BD BK336), GW336.out, GE336.out, NB323_336.out, NB336_323.out, (BW HB)⟩)
 rintro gb336 w28 ⟨h0_, h1_, h2_, h3_, h4_, h5_, h6_⟩
 have n0_ : Aside0 (w28.heap[gb323]? = some (.cells (rr9 0 0 0 0 0 0 0 0 (⟨#[]⟩ : ByteArray)) 43 (0, 0))) := ⟨h0_⟩
 have n1_ : Aside0 (w28.heap[gb336]? = some (.cells (rr9 0 0 0 0 0 0 0 0 (⟨#[]⟩ : ByteArray)) 43 (0, 0))) := ⟨h1_⟩
 have n2_ : Aside0 (w.heap.size ≤ gb336) := ⟨h2_⟩
 have n3_ : Aside0 (w.heap.size ≤ gb336) := ⟨h3_⟩
 have n4_ : Aside0 (gb323 ≠ gb336) := ⟨h4_⟩
 have n5_ : Aside0 (gb336 ≠ gb323) := ⟨h5_⟩
 have n6_ : Aside0 (Below w.heap.size w w28) := ⟨h6_⟩
 clear BK323
 clear HB
 clear h0_ h1_ h2_ h3_ h4_ h5_ h6_
 have BK323 := n0_
 have BK336 := n1_
 have GW336 := n2_
 have GE336 := n3_
 have NB323_336 := n4_
 have NB336_323 := n5_
 have HB := n6_
 clear n0_ n1_ n2_ n3_ n4_ n5_ n6_
 have hHeld := trivial
 refine norm_ (a' := ?_) ?_ ?_
 rotate_left
 ·simp only [putAll, Act.put, List.setIfInBounds_toArray, List.set_cons_zero, List.set_cons_succ]
  rfl
 refine one_ (i := 23) (N := none) (bm 24 0xffffff) rfl rfl (one_of HT_.out (by kernel_rfl)) (by decide) (fun K hK => ?_)
 have hs29 : w28.cell? ⟨gb336, 0, none⟩ = some (.int .i64 0) := (blk_cell BK336.out 0).trans rfl
 have hfs29 := blk_frozen BK336.out 0
 have hns29_0 := NB323_336.out
 have hms29_0 := NB336_323.out
 have hs30 : w28.cell? ⟨gb336, 1, none⟩ = some (.int .i64 0) := (blk_cell BK336.out 1).trans rfl
 have hfs30 := blk_frozen BK336.out 1
 have hns30_0 := NB323_336.out
 have hms30_0 := NB336_323.out
 have hs31 : w28.cell? ⟨gb336, 2, none⟩ = some (.int .i64 0) := (blk_cell BK336.out 2).trans rfl
 have hfs31 := blk_frozen BK336.out 2
 have hns31_0 := NB323_336.out
 have hms31_0 := NB336_323.out
 have hs32 : w28.cell? ⟨gb336, 3, none⟩ = some (.int .i64 0) := (blk_cell BK336.out 3).trans rfl
 have hfs32 := blk_frozen BK336.out 3
 have hns32_0 := NB323_336.out
 have hms32_0 := NB336_323.out
 have hs33 : w28.cell? ⟨gb336, 4, none⟩ = some (.int .i64 0) := (blk_cell BK336.out 4).trans rfl
 have hfs33 := blk_frozen BK336.out 4
 have hns33_0 := NB323_336.out
 have hms33_0 := NB336_323.out
 have hs34 : w28.cell? ⟨gb336, 5, none⟩ = some (.int .i64 0) := (blk_cell BK336.out 5).trans rfl
 have hfs34 := blk_frozen BK336.out 5
 have hns34_0 := NB323_336.out
 have hms34_0 := NB336_323.out
 have hs35 : w28.cell? ⟨gb336, 6, none⟩ = some (.int .u32 0) := (blk_cell BK336.out 6).trans rfl
 have hfs35 := blk_frozen BK336.out 6
 have hns35_0 := NB323_336.out
 have hms35_0 := NB336_323.out
 have hs36 : w28.cell? ⟨gb336, 7, none⟩ = some (.int .u32 0) := (blk_cell BK336.out 7).trans rfl
 have hfs36 := blk_frozen BK336.out 7
 have hns36_0 := NB323_336.out
 have hms36_0 := NB336_323.out
 have hs37 : w28.cell? ⟨gb336, 8, none⟩ = some (.string (⟨#[]⟩ : ByteArray)) := (blk_cell BK336.out 8).trans rfl
 have hfs37 := blk_frozen BK336.out 8
 have hns37_0 := NB323_336.out
 have hms37_0 := NB336_323.out
 refine skip_ (w1 := ?_) (by rfl) rfl ?_ ?_
 rotate_left
 ·go_simp
  rfl
 refine hK.out _ _ trivial (fun hHeld => ?_)
 clear hK K
 refine done_ (done_of HT_.out (by kernel_rfl)) ?_
 try go_wp2
 have n0_ : Aside0 ((((((((((w28.setCell ⟨gb336, 0, none⟩ (.int .i64 t330)).setCell ⟨gb336, 1, none⟩ (.int .i64 t331)).setCell ⟨gb336, 2, none⟩ (.int .i64 (wrap64 (Int.tdiv t329 8192)))).setCell ⟨gb336, 3, none⟩ (.int .i64 (Int.tmod t329 8192))).setCell ⟨gb336, 4, none⟩ (.int .i64 t332)).setCell ⟨gb336, 5, none⟩ (.int .i64 t333)).setCell ⟨gb336, 6, none⟩ (.int .u32 ((t334) % 4294967296))).setCell ⟨gb336, 7, none⟩ (.int .u32 ((t335) % 4294967296))).setCell ⟨gb336, 8, none⟩ (.string (a0.extract 20 (t324 : Int).toNat))).heap[gb323]? = some (.cells (rr9 0 0 0 0 0 0 0 0 (⟨#[]⟩ : ByteArray)) 43 (0, 0))) := ⟨BE BK323⟩
 have n1_ : Aside0 ((((((((((w28.setCell ⟨gb336, 0, none⟩ (.int .i64 t330)).setCell ⟨gb336, 1, none⟩ (.int .i64 t331)).setCell ⟨gb336, 2, none⟩ (.int .i64 (wrap64 (Int.tdiv t329 8192)))).setCell ⟨gb336, 3, none⟩ (.int .i64 (Int.tmod t329 8192))).setCell ⟨gb336, 4, none⟩ (.int .i64 t332)).setCell ⟨gb336, 5, none⟩ (.int .i64 t333)).setCell ⟨gb336, 6, none⟩ (.int .u32 ((t334) % 4294967296))).setCell ⟨gb336, 7, none⟩ (.int .u32 ((t335) % 4294967296))).setCell ⟨gb336, 8, none⟩ (.string (a0.extract 20 (t324 : Int).toNat))).heap[gb336]? = some (.cells (rr9 t330 t331 (wrap64 (Int.tdiv t329 8192)) (Int.tmod t329 8192) t332 t333 ((t334) % 4294967296) ((t335) % 4294967296) (a0.extract 20 (t324 : Int).toNat)) 43 (0, 0))) := ⟨BE BK336⟩
 have n2_ : Aside0 (Below w.heap.size w (((((((((w28.setCell ⟨gb336, 0, none⟩ (.int .i64 t330)).setCell ⟨gb336, 1, none⟩ (.int .i64 t331)).setCell ⟨gb336, 2, none⟩ (.int .i64 (wrap64 (Int.tdiv t329 8192)))).setCell ⟨gb336, 3, none⟩ (.int .i64 (Int.tmod t329 8192))).setCell ⟨gb336, 4, none⟩ (.int .i64 t332)).setCell ⟨gb336, 5, none⟩ (.int .i64 t333)).setCell ⟨gb336, 6, none⟩ (.int .u32 ((t334) % 4294967296))).setCell ⟨gb336, 7, none⟩ (.int .u32 ((t335) % 4294967296))).setCell ⟨gb336, 8, none⟩ (.string (a0.extract 20 (t324 : Int).toNat)))) := ⟨BW HB⟩
 try clear BK323; try clear BK336; try clear HB
 generalize (((((((((w28.setCell ⟨gb336, 0, none⟩ (.int .i64 t330)).setCell ⟨gb336, 1, none⟩ (.int .i64 t331)).setCell ⟨gb336, 2, none⟩ (.int .i64 (wrap64 (Int.tdiv t329 8192)))).setCell ⟨gb336, 3, none⟩ (.int .i64 (Int.tmod t329 8192))).setCell ⟨gb336, 4, none⟩ (.int .i64 t332)).setCell ⟨gb336, 5, none⟩ (.int .i64 t333)).setCell ⟨gb336, 6, none⟩ (.int .u32 ((t334) % 4294967296))).setCell ⟨gb336, 7, none⟩ (.int .u32 ((t335) % 4294967296))).setCell ⟨gb336, 8, none⟩ (.string (a0.extract 20 (t324 : Int).toNat))) = w38 at n0_ n1_ n2_ ⊢
 have BK323 := n0_
 have BK336 := n1_
 have HB := n2_
 clear n0_ n1_ n2_
 replace BK323 := AA (blk_drew BK323.out)
 replace BK336 := AA (blk_drew BK336.out)
 replace HB := AA (below_drew1 HB.out)
 refine start_ (n := 8) (S := fun w' => c9 gb336 t330 t331 (wrap64 (Int.tdiv t329 8192)) (Int.tmod t329 8192) t332 t333 ((t334) % 4294967296) ((t335) % 4294967296) (a0.extract 20 (t324 : Int).toNat) w') (ds := []) (bm 8 0x0) (by kernel_rfl) rfl rfl (HCs BK336) (fun hHeld => ?_); refine with_tabW weighbridgeref04_Parse_p.tab11 weighbridgeref04_Parse_p.bits11 (fun HT_ HW_ => ?_)
 generalize w38.drew = w39 at BK323 BK336 HB hHeld ⊢
 refine pu 1 59 (bm 8 0x2) HT_ ?_
 refine pu 2 60 (bm 8 0x6) HT_ ?_
 refine pu 3 61 (bm 8 0xe) HT_ ?_
 refine pu 4 62 (bm 8 0x1e) HT_ ?_
 refine tw 0 58 (bm 8 0x1f) HT_ HW_ hHeld ?_
 refine one_ (i := 5) (N := none) (bm 8 0x3f) rfl rfl (one_of HT_.out (by kernel_rfl)) (by decide) (fun K hK => ?_)
 have hs40 : w39.cell? ⟨gb323, 0, none⟩ = some (.int .i64 0) := (blk_cell BK323.out 0).trans rfl
 have hfs40 := blk_frozen BK323.out 0
 have hns40_1 := NB336_323.out
 have hms40_1 := NB323_336.out
 have hs41 : w39.cell? ⟨gb323, 1, none⟩ = some (.int .i64 0) := (blk_cell BK323.out 1).trans rfl
 have hfs41 := blk_frozen BK323.out 1
 have hns41_1 := NB336_323.out
 have hms41_1 := NB323_336.out
 have hs42 : w39.cell? ⟨gb323, 2, none⟩ = some (.int .i64 0) := (blk_cell BK323.out 2).trans rfl
 have hfs42 := blk_frozen BK323.out 2
 have hns42_1 := NB336_323.out
 have hms42_1 := NB323_336.out
 have hs43 : w39.cell? ⟨gb323, 3, none⟩ = some (.int .i64 0) := (blk_cell BK323.out 3).trans rfl
 have hfs43 := blk_frozen BK323.out 3
 have hns43_1 := NB336_323.out
 have hms43_1 := NB323_336.out
 have hs44 : w39.cell? ⟨gb323, 4, none⟩ = some (.int .i64 0) := (blk_cell BK323.out 4).trans rfl
 have hfs44 := blk_frozen BK323.out 4
 have hns44_1 := NB336_323.out
 have hms44_1 := NB323_336.out
 have hs45 : w39.cell? ⟨gb323, 5, none⟩ = some (.int .i64 0) := (blk_cell BK323.out 5).trans rfl
 have hfs45 := blk_frozen BK323.out 5
 have hns45_1 := NB336_323.out
 have hms45_1 := NB323_336.out
 have hs46 : w39.cell? ⟨gb323, 6, none⟩ = some (.int .u32 0) := (blk_cell BK323.out 6).trans rfl
 have hfs46 := blk_frozen BK323.out 6
 have hns46_1 := NB336_323.out
 have hms46_1 := NB323_336.out
 have hs47 : w39.cell? ⟨gb323, 7, none⟩ = some (.int .u32 0) := (blk_cell BK323.out 7).trans rfl
 have hfs47 := blk_frozen BK323.out 7
 have hns47_1 := NB336_323.out
 have hms47_1 := NB323_336.out
 have hs48 : w39.cell? ⟨gb323, 8, none⟩ = some (.string (⟨#[]⟩ : ByteArray)) := (blk_cell BK323.out 8).trans rfl
 have hfs48 := blk_frozen BK323.out 8
 have hns48_1 := NB336_323.out
 have hms48_1 := NB323_336.out
 refine skip_ (w1 := ?_) (by rfl) rfl ?_ ?_
 rotate_left
 ·go_simp
  rfl
 refine hK.out _ _ ⟨((cell_far (p := ⟨gb323, _, none⟩) NB336_323.out _).trans (((cell_far (p := ⟨gb323, _, none⟩) NB336_323.out _).trans (((cell_far (p := ⟨gb323, _, none⟩) NB336_323.out _).trans (((cell_far (p := ⟨gb323, _, none⟩) NB336_323.out _).trans (((cell_far (p := ⟨gb323, _, none⟩) NB336_323.out _).trans (((cell_far (p := ⟨gb323, _, none⟩) NB336_323.out _).trans (((cell_far (p := ⟨gb323, _, none⟩) NB336_323.out _).trans (((cell_far (p := ⟨gb323, _, none⟩) NB336_323.out _).trans (((cell_far (p := ⟨gb323, _, none⟩) NB336_323.out _).trans (hHeld.1)))))))))))))))))), ((cell_far (p := ⟨gb323, _, none⟩) NB336_323.out _).trans (((cell_far (p := ⟨gb323, _, none⟩) NB336_323.out _).trans (((cell_far (p := ⟨gb323, _, none⟩) NB336_323.out _).trans (((cell_far (p := ⟨gb323, _, none⟩) NB336_323.out _).trans (((cell_far (p := ⟨gb323, _, none⟩) NB336_323.out _).trans (((cell_far (p := ⟨gb323, _, none⟩) NB336_323.out _).trans (((cell_far (p := ⟨gb323, _, none⟩) NB336_323.out _).trans (((cell_far (p := ⟨gb323, _, none⟩) NB336_323.out _).trans (((cell_far (p := ⟨gb323, _, none⟩) NB336_323.out _).trans (hHeld.2.1)))))))))))))))))), ((cell_far (p := ⟨gb323, _, none⟩) NB336_323.out _).trans (((cell_far (p := ⟨gb323, _, none⟩) NB336_323.out _).trans (((cell_far (p := ⟨gb323, _, none⟩) NB336_323.out _).trans (((cell_far (p := ⟨gb323, _, none⟩) NB336_323.out _).trans (((cell_far (p := ⟨gb323, _, none⟩) NB336_323.out _).trans (((cell_far (p := ⟨gb323, _, none⟩) NB336_323.out _).trans (((cell_far (p := ⟨gb323, _, none⟩) NB336_323.out _).trans (((cell_far (p := ⟨gb323, _, none⟩) NB336_323.out _).trans (((cell_far (p := ⟨gb323, _, none⟩) NB336_323.out _).trans (hHeld.2.2.1)))))))))))))))))), ((cell_far (p := ⟨gb323, _, none⟩) NB336_323.out _).trans (((cell_far (p := ⟨gb323, _, none⟩) NB336_323.out _).trans (((cell_far (p := ⟨gb323, _, none⟩) NB336_323.out _).trans (((cell_far (p := ⟨gb323, _, none⟩) NB336_323.out _).trans (((cell_far (p := ⟨gb323, _, none⟩) NB336_323.out _).trans (((cell_far (p := ⟨gb323, _, none⟩) NB336_323.out _).trans (((cell_far (p := ⟨gb323, _, none⟩) NB336_323.out _).trans (((cell_far (p := ⟨gb323, _, none⟩) NB336_323.out _).trans (((cell_far (p := ⟨gb323, _, none⟩) NB336_323.out _).trans (hHeld.2.2.2.1)))))))))))))))))), ((cell_far (p := ⟨gb323, _, none⟩) NB336_323.out _).trans (((cell_far (p := ⟨gb323, _, none⟩) NB336_323.out _).trans (((cell_far (p := ⟨gb323, _, none⟩) NB336_323.out _).trans (((cell_far (p := ⟨gb323, _, none⟩) NB336_323.out _).trans (((cell_far (p := ⟨gb323, _, none⟩) NB336_323.out _).trans (((cell_far (p := ⟨gb323, _, none⟩) NB336_323.out _).trans (((cell_far (p := ⟨gb323, _, none⟩) NB336_323.out _).trans (((cell_far (p := ⟨gb323, _, none⟩) NB336_323.out _).trans (((cell_far (p := ⟨gb323, _, none⟩) NB336_323.out _).trans (hHeld.2.2.2.2.1)))))))))))))))))), ((cell_far (p := ⟨gb323, _, none⟩) NB336_323.out _).trans (((cell_far (p := ⟨gb323, _, none⟩) NB336_323.out _).trans (((cell_far (p := ⟨gb323, _, none⟩) NB336_323.out _).trans (((cell_far (p := ⟨gb323, _, none⟩) NB336_323.out _).trans (((cell_far (p := ⟨gb323, _, none⟩) NB336_323.out _).trans (((cell_far (p := ⟨gb323, _, none⟩) NB336_323.out _).trans (((cell_far (p := ⟨gb323, _, none⟩) NB336_323.out _).trans (((cell_far (p := ⟨gb323, _, none⟩) NB336_323.out _).trans (((cell_far (p := ⟨gb323, _, none⟩) NB336_323.out _).trans (hHeld.2.2.2.2.2.1)))))))))))))))))), ((cell_far (p := ⟨gb323, _, none⟩) NB336_323.out _).trans (((cell_far (p := ⟨gb323, _, none⟩) NB336_323.out _).trans (((cell_far (p := ⟨gb323, _, none⟩) NB336_323.out _).trans (((cell_far (p := ⟨gb323, _, none⟩) NB336_323.out _).trans (((cell_far (p := ⟨gb323, _, none⟩) NB336_323.out _).trans (((cell_far (p := ⟨gb323, _, none⟩) NB336_323.out _).trans (((cell_far (p := ⟨gb323, _, none⟩) NB336_323.out _).trans (((cell_far (p := ⟨gb323, _, none⟩) NB336_323.out _).trans (((cell_far (p := ⟨gb323, _, none⟩) NB336_323.out _).trans (hHeld.2.2.2.2.2.2.1)))))))))))))))))), ((cell_far (p := ⟨gb323, _, none⟩) NB336_323.out _).trans (((cell_far (p := ⟨gb323, _, none⟩) NB336_323.out _).trans (((cell_far (p := ⟨gb323, _, none⟩) NB336_323.out _).trans (((cell_far (p := ⟨gb323, _, none⟩) NB336_323.out _).trans (((cell_far (p := ⟨gb323, _, none⟩) NB336_323.out _).trans (((cell_far (p := ⟨gb323, _, none⟩) NB336_323.out _).trans (((cell_far (p := ⟨gb323, _, none⟩) NB336_323.out _).trans (((cell_far (p := ⟨gb323, _, none⟩) NB336_323.out _).trans (((cell_far (p := ⟨gb323, _, none⟩) NB336_323.out _).trans (hHeld.2.2.2.2.2.2.2.1)))))))))))))))))), ((cell_far (p := ⟨gb323, _, none⟩) NB336_323.out _).trans (((cell_far (p := ⟨gb323, _, none⟩) NB336_323.out _).trans (((cell_far (p := ⟨gb323, _, none⟩) NB336_323.out _).trans (((cell_far (p := ⟨gb323, _, none⟩) NB336_323.out _).trans (((cell_far (p := ⟨gb323, _, none⟩) NB336_323.out _).trans (((cell_far (p := ⟨gb323, _, none⟩) NB336_323.out _).trans (((cell_far (p := ⟨gb323, _, none⟩) NB336_323.out _).trans (((cell_far (p := ⟨gb323, _, none⟩) NB336_323.out _).trans (((cell_far (p := ⟨gb323, _, none⟩) NB336_323.out _).trans (hHeld.2.2.2.2.2.2.2.2))))))))))))))))))⟩ (fun hHeld => ?_)
 clear hK K
 refine pu 6 3 (bm 8 0x7f) HT_ ?_
 refine pu 7 4 (bm 8 0xff) HT_ ?_
 refine done_ (done_of HT_.out (by kernel_rfl)) ?_
 try go_wp2
 refine bodyPost_ret (results_ctt rfl _ _ gb323 43 #[.int .i64 t330, .int .i64 t331, .int .i64 (wrap64 (Int.tdiv t329 8192)), .int .i64 (Int.tmod t329 8192), .int .i64 t332, .int .i64 t333, .int .u32 ((t334) % 4294967296), .int .u32 ((t335) % 4294967296), .string (a0.extract 20 (t324 : Int).toNat)] (0, 0) _ rfl (BE BK323) Tryz.underlying43 rfl (by kernel_rfl)) rfl ?_
 exact ⟨RT, BW HB⟩

theorem r4_get (s : ByteArray) (a b : Int) (hs : s.size ≤ 140737488355328) : weighbridgeref04_num.f s a b = some (Sp.get (bl s) a b).1 := by
 unfold weighbridgeref04_num.f; rw [weighbridgeref01_Get_eq _ _ _ (by omega)]; rfl
theorem r4_small (s : List UInt8) (a b : Int) : 0 ≤ (Sp.get s a b).1 ∧ (Sp.get s a b).1 < 4294967296 := by
 unfold Sp.get
 split
 case isFalse => exact ⟨by decide, by decide⟩
 case isTrue h =>
  have hf := Sp.has_iff.1 h
  exact Sp.beNum_small _ (by rw [List.length_take]; omega)
def weighbridgeref04_Parse.f (a0 : ByteArray) : Option (Int × Int × Int × Int × Int × Int × Int × Int × ByteArray × ByteArray × Int) := if a0.size ≤ 140737488355328 then some ((Sp.ip4Parse (bl a0)).tos, (Sp.ip4Parse (bl a0)).id, (Sp.ip4Parse (bl a0)).flags, (Sp.ip4Parse (bl a0)).frag, (Sp.ip4Parse (bl a0)).ttl, (Sp.ip4Parse (bl a0)).proto, (Sp.ip4Parse (bl a0)).src, (Sp.ip4Parse (bl a0)).dst, lb (Sp.ip4Parse (bl a0)).opts, lb (Sp.ip4Parse (bl a0)).body, (Sp.ip4Parse (bl a0)).e) else none
theorem weighbridgeref04_Parse_eq {a0 : ByteArray} (h : a0.size ≤ 140737488355328) : weighbridgeref04_Parse.f a0 = some ((Sp.ip4Parse (bl a0)).tos, (Sp.ip4Parse (bl a0)).id, (Sp.ip4Parse (bl a0)).flags, (Sp.ip4Parse (bl a0)).frag, (Sp.ip4Parse (bl a0)).ttl, (Sp.ip4Parse (bl a0)).proto, (Sp.ip4Parse (bl a0)).src, (Sp.ip4Parse (bl a0)).dst, lb (Sp.ip4Parse (bl a0)).opts, lb (Sp.ip4Parse (bl a0)).body, (Sp.ip4Parse (bl a0)).e) := by unfold weighbridgeref04_Parse.f; exact if_pos h
theorem weighbridgeref04_Parse_ev (a0 : ByteArray) (r : Int × Int × Int × Int × Int × Int × Int × Int × ByteArray × ByteArray × Int) (h : weighbridgeref04_Parse.f a0 = some r) : weighbridgeref04_Parse_p.f a0 = some r := by
 unfold weighbridgeref04_Parse.f at h
 split at h
 case isFalse => cases h
 case isTrue hs =>
  rw [← h]
  have hl := bl_length a0
  unfold weighbridgeref04_Parse_p.f
  rw [weighbridgeref04_Sizes_eq hs, Option.bind_some]
  by_cases h0 : (Sp.ip4Sizes (bl a0)).2.2 = 0
  rotate_left
  ·have e : Sp.ip4Parse (bl a0) = Sp.ip4None (Sp.ip4Sizes (bl a0)).2.2 := by unfold Sp.ip4Parse; rw [if_neg h0]
   rw [if_neg h0, e]; rfl
  obtain ⟨z1, z2, z3, z4, z5, z6, z7, ez⟩ := Sp.ip4Sizes_ok h0
  have e1 : (Sp.ip4Sizes (bl a0)).1 = Sp.ip4Len (bl a0) := by rw [ez]
  have e2 : (Sp.ip4Sizes (bl a0)).2.1 = Sp.ip4Tot (bl a0) := by rw [ez]
  have hx : ∀ i j : Nat, a0.extract i j = lb (((bl a0).take j).drop i) := fun i j => Sp.bl_inj (by rw [bl_extract, bl_lb])
  have hlen : ∀ i j : Nat, (((bl a0).take j).drop i).length ≤ 140737488355328 := fun i j => by rw [List.length_drop, List.length_take]; omega
  rw [if_pos h0, e1, e2, if_pos (by omega), if_pos (by omega), hx 0, List.drop_zero, weighbridgeref03_Sum_eq (by rw [lb_size, List.length_take]; omega), Option.bind_some, bl_lb]
  by_cases hc : Sp.sum ((bl a0).take (Sp.ip4Len (bl a0)).toNat) = 65535
  ·rw [if_pos hc, if_pos (by omega), hx 20, weighbridgeref04_OptsRight_eq (by rw [lb_size]; exact hlen _ _), Option.bind_some, bl_lb]
   by_cases ho : Sp.optsOk (((bl a0).take (Sp.ip4Len (bl a0)).toNat).drop 20) = true
   ·have g6 := r4_small (bl a0) 6 2
    have g12 := r4_small (bl a0) 12 4
    have g16 := r4_small (bl a0) 16 4
    have e : Sp.ip4Parse (bl a0) = Sp.ip4Fields (bl a0) (Sp.ip4Len (bl a0)) (Sp.ip4Tot (bl a0)) := by unfold Sp.ip4Parse; rw [if_pos h0, if_pos hc, if_pos ho]
    rw [if_pos ho]
    simp only [r4_get _ _ _ hs, Option.bind_some]
    rw [if_pos (by omega), if_pos (by omega), hx, Int.tdiv_eq_ediv_of_nonneg g6.1, r4_wrap (by omega) (by omega), Int.tmod_eq_emod_of_nonneg g6.1, Int.emod_eq_of_lt g12.1 g12.2, Int.emod_eq_of_lt g16.1 g16.2, e]
    rfl
   have e : Sp.ip4Parse (bl a0) = Sp.ip4None 6 := by unfold Sp.ip4Parse; rw [if_pos h0, if_pos hc, if_neg ho]
   rw [if_neg ho, e]; rfl
  have e : Sp.ip4Parse (bl a0) = Sp.ip4None 7 := by unfold Sp.ip4Parse; rw [if_pos h0, if_neg hc]
  rw [if_neg hc, e]; rfl

theorem weighbridgeref04_Parse.calls (a0 : ByteArray) (r1 : Int) (r2 : Int) (r3 : Int) (r4 : Int) (r5 : Int) (r6 : Int) (r7 : Int) (r8 : Int) (r9 : ByteArray) (r10 : ByteArray) (r11 : Int) (w : World) (h : weighbridgeref04_Parse.f a0 = some (r1, r2, r3, r4, r5, r6, r7, r8, r9, r10, r11)) :
  Calls Tryz.prog 65 #[.string a0] w fun e w' => e = .returned (.tuple #[.agg #[.int .i64 r1, .int .i64 r2, .int .i64 r3, .int .i64 r4, .int .i64 r5, .int .i64 r6, .int .u32 r7, .int .u32 r8, .string r9], .string r10, .int .i64 r11]) ∧ Below w.heap.size w w' := by
 have hk := weighbridgeref04_Parse_ev a0 _ h
 exact weighbridgeref04_Parse_p.calls a0 r1 r2 r3 r4 r5 r6 r7 r8 r9 r10 r11 w hk

end Go.Proofs.YtfnjohklmpiboaaGreat.Pr
