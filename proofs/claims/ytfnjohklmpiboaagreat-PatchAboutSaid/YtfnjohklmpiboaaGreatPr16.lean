-- Written by a program of the session (wip/tools) out of the translation, over the kit's print; with pieces of the session's own.
import Derived.Test.YtfnjohklmpiboaaGreatPr0
import Derived.Test.YtfnjohklmpiboaaGreatPr10
import Derived.Test.YtfnjohklmpiboaaGreatPr12
namespace Go.Proofs.YtfnjohklmpiboaaGreat.Pr
open Go.RowKit Go.Proofs.YtfnjohklmpiboaaGreatW.PrintWords Go.Proofs.YtfnjohklmpiboaaGreatW.PrintLast Go.Proofs.YtfnjohklmpiboaaGreatW.PrintMore
attribute [local go_sem] max2_int min2_int max_two min_two max_three min_three max_four min_four   -- for this text's walks alone
set_option linter.unusedVariables false
set_option linter.unusedSimpArgs false
open Go.Proofs.YtfnjohklmpiboaaGreat.Sp
/-! ### icmp_Parse_p: function 80 -/
def icmp_Parse_p.f (a0 : ByteArray) : Option (Int × Int × Int × ByteArray × Int) := (octet_Get.f a0 4 4).bind fun bt279 => (if bt279.2 = true then ((cksum_Sum.f a0).bind fun t281 => (if t281 = 65535 then (if 0 < (a0.size : Int) then (if 1 < (a0.size : Int) then (if 8 ≤ (a0.size : Int) then (some (wrap64 (bt a0 0), wrap64 (bt a0 1), (bt279.1) % 4294967296, a0.extract 8 a0.size, 0)) else (none)) else (none)) else (none)) else (some (0, 0, 0, (⟨#[]⟩ : ByteArray), 7)))) else (some (0, 0, 0, (⟨#[]⟩ : ByteArray), 2)))
def icmp_Parse_p.T6 : Bool × List (List Nat × List Nat) := (true, [([], []), ([0], [0]), ([1], [1]), ([], []), ([3], [3]), ([4], [4]), ([], []), ([6], [6]), ([], []), ([8], [8]), ([2, 5, 7, 9], [2, 5, 7, 9]), ([10, 0, 1, 2, 3, 4, 5, 6, 7, 8, 9, 10], [10]), ([11, 0, 1, 2, 3, 4, 5, 6, 7, 8, 9, 10, 11], [])])
def icmp_Parse_p.B6 : List Nat := [0, 1, 3, 0, 8, 24, 0, 64, 0, 256, 1023, 2047, 4095]
theorem icmp_Parse_p.tab6 : rtab .any (opsOf Tryz.f80 6) = icmp_Parse_p.T6 := by kernel_rfl
theorem icmp_Parse_p.bits6 : waitsOk icmp_Parse_p.T6.2 icmp_Parse_p.B6 = true := by kernel_rfl
set_option maxHeartbeats 8000000 in
set_option maxRecDepth 100000 in
theorem icmp_Parse_p.calls (a0 : ByteArray) (r1 : Int) (r2 : Int) (r3 : Int) (r4 : ByteArray) (r5 : Int) (w : World) (h : icmp_Parse_p.f a0 = some (r1, r2, r3, r4, r5)) :
  Calls Tryz.prog 80 #[.string a0] w fun e w' => e = .returned (.tuple #[.agg #[.int .i64 r1, .int .i64 r2, .int .u32 r3, .string r4], .int .i64 r5]) ∧ Below w.heap.size w w' := by
 have hu128 := Tryz.underlying128
 have HB := AA (Below.refl w.heap.size w)
 have H := h
 unfold icmp_Parse_p.f at H
 clear h
 replace H := OB H
 obtain ⟨⟨t279, t280⟩, A2, H⟩ := H
 (try set_option simprocs false in dsimp only at H)
 by_cases c3 : t280 = true
 rotate_left
 ·replace c3 := Bool.eq_false_iff.mpr c3
  subst c3
  replace H := IFN H
  simp only [Option.some.injEq, Prod.mk.injEq] at H
  obtain ⟨rfl, rfl, rfl, rfl, rfl⟩ := H
  go_enter Tryz.func80, Tryz.ntmps80
  go_wp2_with (first | ((with_reducible refine gate_dst (N := 2) rfl ?_); refine bx 2 128 #[.int .i64 0, .int .i64 0, .int .u32 0, .string (⟨#[]⟩ : ByteArray)] ?_; intro gb278 hg w23 hbox hb; have BK278 := AA hbox; have GW278 := GS hg HB; have GE278 := GS hg HB; replace HB := BS HB hb; clear hb hbox hg) | ((with_reducible refine gkx 41 rfl ?_); refine gL 8 Tryz.func41 rfl (octet_Get.calls a0 4 4 t279 false _ A2.out) ?_; rintro w24 hb; (try clear A2); replace BK278 := AA (blk_below (g := gb278) (o := .cells #[.int .i64 0, .int .i64 0, .int .u32 0, .string (⟨#[]⟩ : ByteArray)] 128 (0, 0)) (BD BK278) hb); replace HB := BS HB hb; (try clear hb); have hz25 := blk4 BK278.out))
  refine bodyPost_ret (results_ct rfl _ _ gb278 128 #[.int .i64 0, .int .i64 0, .int .u32 0, .string (⟨#[]⟩ : ByteArray)] (0, 0) _ rfl (BE BK278) Tryz.underlying128 rfl (by kernel_rfl)) rfl ?_
  exact ⟨RT, BW HB⟩
 subst c3
 first | rw [if_pos rfl] at H | rw [if_pos trivial] at H
 replace H := OB H
 obtain ⟨t281, A4, H⟩ := H
 (try set_option simprocs false in dsimp only at H)
 by_cases c5 : t281 = 65535
 rotate_left
 ·rw [if_neg c5] at H
  have c5b0 := BF c5
  have c5b1 := NT c5
  simp only [Option.some.injEq, Prod.mk.injEq] at H
  obtain ⟨rfl, rfl, rfl, rfl, rfl⟩ := H
  go_enter Tryz.func80, Tryz.ntmps80
  go_wp2_with (first | ((with_reducible refine gate_dst (N := 2) rfl ?_); refine bx 2 128 #[.int .i64 0, .int .i64 0, .int .u32 0, .string (⟨#[]⟩ : ByteArray)] ?_; intro gb278 hg w19 hbox hb; have BK278 := AA hbox; have GW278 := GS hg HB; have GE278 := GS hg HB; replace HB := BS HB hb; clear hb hbox hg) | ((with_reducible refine gkx 41 rfl ?_); refine gL 8 Tryz.func41 rfl (octet_Get.calls a0 4 4 t279 true _ A2.out) ?_; rintro w20 hb; (try clear A2); replace BK278 := AA (blk_below (g := gb278) (o := .cells #[.int .i64 0, .int .i64 0, .int .u32 0, .string (⟨#[]⟩ : ByteArray)] 128 (0, 0)) (BD BK278) hb); replace HB := BS HB hb; (try clear hb)) | ((with_reducible refine gkx 64 rfl ?_); refine gL 15 Tryz.func64 rfl (cksum_Sum.calls a0 t281 _ A4.out) ?_; rintro w21 hb; (try clear A4); replace BK278 := AA (blk_below (g := gb278) (o := .cells #[.int .i64 0, .int .i64 0, .int .u32 0, .string (⟨#[]⟩ : ByteArray)] 128 (0, 0)) (BD BK278) hb); replace HB := BS HB hb; (try clear hb); have hz22 := blk4 BK278.out))
  refine bodyPost_ret (results_ct rfl _ _ gb278 128 #[.int .i64 0, .int .i64 0, .int .u32 0, .string (⟨#[]⟩ : ByteArray)] (0, 0) _ rfl (BE BK278) Tryz.underlying128 rfl (by kernel_rfl)) rfl ?_
  exact ⟨RT, BW HB⟩
 rw [if_pos c5] at H
 have c5b0 := BT c5
 have c5b1 := NF c5
 clear c5
 replace H := IT H
 obtain ⟨c6, H⟩ := H
 have c6b0 := decide_eq_true c6
 have c6b1 : decide (0 < a0.size) = true := decide_eq_true (by omega)
 clear c6
 replace H := IT H
 obtain ⟨c8, H⟩ := H
 have c8b0 := decide_eq_true c8
 have c8b1 : decide (1 < a0.size) = true := decide_eq_true (by omega)
 clear c8
 replace H := IU H
 obtain ⟨c10b0, c10b1, H⟩ := H
 simp only [Option.some.injEq, Prod.mk.injEq] at H
 obtain ⟨rfl, rfl, rfl, rfl, rfl⟩ := H
 go_enter Tryz.func80, Tryz.ntmps80
 try go_wp2_with (first | ((with_reducible refine gate_dst (N := 2) rfl ?_); refine bx 2 128 #[.int .i64 0, .int .i64 0, .int .u32 0, .string (⟨#[]⟩ : ByteArray)] ?_; intro gb278 hg w11 hbox hb; have BK278 := AA hbox; have GW278 := GS hg HB; have GE278 := GS hg HB; replace HB := BS HB hb; clear hb hbox hg) | ((with_reducible refine gkx 41 rfl ?_); refine gL 8 Tryz.func41 rfl (octet_Get.calls a0 4 4 t279 true _ A2.out) ?_; rintro w12 hb; (try clear A2); replace BK278 := AA (blk_below (g := gb278) (o := .cells #[.int .i64 0, .int .i64 0, .int .u32 0, .string (⟨#[]⟩ : ByteArray)] 128 (0, 0)) (BD BK278) hb); replace HB := BS HB hb; (try clear hb)) | ((with_reducible refine gkx 64 rfl ?_); refine gL 15 Tryz.func64 rfl (cksum_Sum.calls a0 t281 _ A4.out) ?_; rintro w13 hb; (try clear A4); replace BK278 := AA (blk_below (g := gb278) (o := .cells #[.int .i64 0, .int .i64 0, .int .u32 0, .string (⟨#[]⟩ : ByteArray)] 128 (0, 0)) (BD BK278) hb); replace HB := BS HB hb; (try clear hb)))
 replace BK278 := AA (blk_drew BK278.out)
 replace HB := AA (below_drew1 HB.out)
 have p7 : 0 ≤ (0 : Int) := (by omega)
 have q7 : 0 < a0.size := (by have : (0 : Int) < (a0.size : Int) := DA; omega)
 have hx7 : ∀ h : 0 < a0.size, ((a0[0]'h).toNat : Int) = bt a0 0 := bt_at a0 0
 clear p7
 have qi7 : (0 < (a0.size : Int)) = True := eq_true (DA)
 replace q7 := eq_true q7
 have p9 : 0 ≤ (1 : Int) := (by omega)
 have q9 : 1 < a0.size := (by have : (1 : Int) < (a0.size : Int) := DA; omega)
 have hx9 : ∀ h : 1 < a0.size, ((a0[1]'h).toNat : Int) = bt a0 1 := bt_at a0 1
 clear p9
 have qi9 : (1 < (a0.size : Int)) = True := eq_true (DA)
 replace q9 := eq_true q9
 refine start_ (n := 13) (S := fun w' => True) (ds := []) (bm 13 0x0) (by kernel_rfl) rfl rfl trivial (fun hHeld => ?_); refine with_tabW icmp_Parse_p.tab6 icmp_Parse_p.bits6 (fun HT_ HW_ => ?_)
 generalize w13.drew = w14 at BK278 HB hHeld ⊢
 refine pu 0 18 (bm 13 0x1) HT_ ?_
 refine pu 3 21 (bm 13 0x9) HT_ ?_
 refine pu 6 24 (bm 13 0x49) HT_ ?_
 refine pu 7 25 (bm 13 0xc9) HT_ ?_
 refine pu 8 26 (bm 13 0x1c9) HT_ ?_
 refine pu 9 27 (bm 13 0x3c9) HT_ ?_
 refine take_ (i := 1) (N := some 19) (v := ?_) (a' := ?_) (bm 13 0x3cb) rfl rfl (take_ofW HT_.out HW_.out (by kernel_rfl)) (fun _ _ _ h => h) (Or.inl ⟨by rfl, ?_⟩) hHeld ?_ ?_
 rotate_left
 ·intro w' _
  go_simp
  with_reducible rfl
 rotate_left
 ·simp only [Act.put, zpA, zpO, zpS, i64_w, i32_w]
  rfl
 refine pu 2 20 (bm 13 0x3cf) HT_ ?_
 refine take_ (i := 4) (N := some 22) (v := ?_) (a' := ?_) (bm 13 0x3df) rfl rfl (take_ofW HT_.out HW_.out (by kernel_rfl)) (fun _ _ _ h => h) (Or.inl ⟨by rfl, ?_⟩) hHeld ?_ ?_
 rotate_left
 ·intro w' _
  go_simp
  with_reducible rfl
 rotate_left
 ·simp only [Act.put, zpA, zpO, zpS, i64_w, i32_w]
  rfl
 refine pu 5 23 (bm 13 0x3ff) HT_ ?_
 refine pu 10 28 (bm 13 0x7ff) HT_ ?_
 refine one_ (i := 11) (N := none) (bm 13 0xfff) rfl rfl (one_of HT_.out (by kernel_rfl)) (by decide) (fun K hK => ?_)
 have hs15 : w14.cell? ⟨gb278, 0, none⟩ = some (.int .i64 0) := (blk_cell BK278.out 0).trans rfl
 have hfs15 := blk_frozen BK278.out 0
 have hs16 : w14.cell? ⟨gb278, 1, none⟩ = some (.int .i64 0) := (blk_cell BK278.out 1).trans rfl
 have hfs16 := blk_frozen BK278.out 1
 have hs17 : w14.cell? ⟨gb278, 2, none⟩ = some (.int .u32 0) := (blk_cell BK278.out 2).trans rfl
 have hfs17 := blk_frozen BK278.out 2
 have hs18 : w14.cell? ⟨gb278, 3, none⟩ = some (.string (⟨#[]⟩ : ByteArray)) := (blk_cell BK278.out 3).trans rfl
 have hfs18 := blk_frozen BK278.out 3
 refine skip_ (w1 := ?_) (by rfl) rfl ?_ ?_
 rotate_left
 ·go_simp
  rfl
 refine hK.out _ _ trivial (fun hHeld => ?_)
 clear hK K
 refine pu 12 3 (bm 13 0x1fff) HT_ ?_
 refine done_ (done_of HT_.out (by kernel_rfl)) ?_
 try go_wp2
 refine bodyPost_ret (results_ct rfl _ _ gb278 128 #[.int .i64 (wrap64 (bt a0 0)), .int .i64 (wrap64 (bt a0 1)), .int .u32 ((t279) % 4294967296), .string (a0.extract 8 a0.size)] (0, 0) _ rfl (BE BK278) Tryz.underlying128 rfl (by kernel_rfl)) rfl ?_
 exact ⟨RT, BW HB⟩

theorem ic_b {s : ByteArray} {i : Nat} (h : i < s.size) : wrap64 (bt s (i : Int)) = Sp.byteAt (bl s) i := by
 have hb := Sp.byteAt_bounds (bl s) i
 have e : bt s (i : Int) = Sp.byteAt (bl s) i := by
  rw [bt_bl s (i : Int) (by rw [Int.toNat_natCast]; exact h)]
  unfold Sp.byteAt
  rw [List.getD_eq_getElem?_getD, List.getElem?_eq_getElem (by simpa using h)]; rfl
 rw [e]; exact wrap_id (by omega) (by omega)
theorem ic_small (s : List UInt8) (a b : Int) : 0 ≤ (Sp.get s a b).1 ∧ (Sp.get s a b).1 < 4294967296 := by
 unfold Sp.get
 split
 case isTrue h =>
  have := Sp.has_iff.1 h
  exact Sp.beNum_small _ (by rw [List.length_take]; omega)
 case isFalse => exact ⟨by decide, by decide⟩
theorem ic_drop (s : ByteArray) (n : Nat) : s.extract n s.size = lb ((bl s).drop n) := Sp.bl_inj (by rw [Sp.bl_extract, Sp.bl_lb, List.take_of_length_le (by rw [bl_length]; exact Nat.le_refl _)])
def icmp_Parse.f (a0 : ByteArray) : Option (Int × Int × Int × ByteArray × Int) := if a0.size ≤ 140737488355328 then some ((Sp.icmpParse (bl a0)).t, (Sp.icmpParse (bl a0)).c, (Sp.icmpParse (bl a0)).r, lb (Sp.icmpParse (bl a0)).body, (Sp.icmpParse (bl a0)).e) else none
theorem icmp_Parse_eq {a0 : ByteArray} (h : a0.size ≤ 140737488355328) : icmp_Parse.f a0 = some ((Sp.icmpParse (bl a0)).t, (Sp.icmpParse (bl a0)).c, (Sp.icmpParse (bl a0)).r, lb (Sp.icmpParse (bl a0)).body, (Sp.icmpParse (bl a0)).e) := by unfold icmp_Parse.f; exact if_pos h
theorem icmp_Parse_ev (a0 : ByteArray) (r : Int × Int × Int × ByteArray × Int) (h : icmp_Parse.f a0 = some r) : icmp_Parse_p.f a0 = some r := by
 unfold icmp_Parse.f at h
 split at h
 case isFalse => cases h
 case isTrue hs =>
  rw [← h]
  unfold icmp_Parse_p.f Sp.icmpParse
  rw [octet_Get_eq _ _ _ (by omega), Option.bind_some, Sp.get_snd]
  by_cases h8 : a0.size < 8
  ·have hb : Sp.has (bl a0) 4 4 = false := Sp.has_no (by rw [bl_length]; omega)
   have hl : (bl a0).length < 8 := by rw [bl_length]; exact h8
   rw [hb, if_neg (by decide), if_pos hl]; rfl
  have hb : Sp.has (bl a0) 4 4 = true := Sp.has_iff.2 ⟨by decide, by decide, by decide, by rw [bl_length]; omega⟩
  have hl : ¬ (bl a0).length < 8 := by rw [bl_length]; exact h8
  rw [hb, if_pos rfl, if_neg hl, cksum_Sum_eq (by omega), Option.bind_some]
  by_cases hv : Sp.sum (bl a0) = 65535
  ·have e0 := ic_b (s := a0) (i := 0) (by omega)
   have e1 := ic_b (s := a0) (i := 1) (by omega)
   have hg := ic_small (bl a0) 4 4
   rw [if_pos hv, if_pos hv, if_pos (by omega), if_pos (by omega), if_pos (by omega), show wrap64 (bt a0 0) = _ from e0, show wrap64 (bt a0 1) = _ from e1, Int.emod_eq_of_lt hg.1 hg.2, ic_drop a0 8]
  rw [if_neg hv, if_neg hv]; rfl
theorem icmp_Parse.calls (a0 : ByteArray) (r1 : Int) (r2 : Int) (r3 : Int) (r4 : ByteArray) (r5 : Int) (w : World) (h : icmp_Parse.f a0 = some (r1, r2, r3, r4, r5)) :
  Calls Tryz.prog 80 #[.string a0] w fun e w' => e = .returned (.tuple #[.agg #[.int .i64 r1, .int .i64 r2, .int .u32 r3, .string r4], .int .i64 r5]) ∧ Below w.heap.size w w' := by
 have hk := icmp_Parse_ev a0 _ h
 exact icmp_Parse_p.calls a0 r1 r2 r3 r4 r5 w hk

/-! ### icmp_Error: function 83 -/
def icmp_Error.f (a0 : Int) : Option (Bool) := if a0 = 3 then (some true) else (if a0 = 11 then (some true) else (if a0 = 12 then (some true) else (some false)))
set_option maxHeartbeats 8000000 in
set_option maxRecDepth 100000 in
theorem icmp_Error.calls (a0 : Int) (r : Bool) (w : World) (h : icmp_Error.f a0 = some r) :
  Calls Tryz.prog 83 #[.int .i64 a0] w fun e w' => e = .returned (.bool r) ∧ Drawn0 w w' := by
 have H : (if a0 = 3 then (some true) else (if a0 = 11 then (some true) else (if a0 = 12 then (some true) else (some false)))) = some r := h
 clear h
 by_cases c2 : a0 = 3
 ·rw [if_pos c2] at H
  have c2b0 := BT c2
  have c2b1 := NF c2
  clear c2
  obtain rfl := Option.some.inj H
  go_enter Tryz.func83, Tryz.ntmps83
  go_wp2
  go_ret
  exact ⟨RS, DW⟩
 rw [if_neg c2] at H
 have c2b0 := BF c2
 have c2b1 := NT c2
 by_cases c3 : a0 = 11
 ·rw [if_pos c3] at H
  have c3b0 := BT c3
  have c3b1 := NF c3
  clear c3
  obtain rfl := Option.some.inj H
  go_enter Tryz.func83, Tryz.ntmps83
  go_wp2
  go_ret
  exact ⟨RS, DW⟩
 rw [if_neg c3] at H
 have c3b0 := BF c3
 have c3b1 := NT c3
 by_cases c4 : a0 = 12
 ·rw [if_pos c4] at H
  have c4b0 := BT c4
  have c4b1 := NF c4
  clear c4
  obtain rfl := Option.some.inj H
  go_enter Tryz.func83, Tryz.ntmps83
  go_wp2
  go_ret
  exact ⟨RS, DW⟩
 rw [if_neg c4] at H
 have c4b0 := BF c4
 have c4b1 := NT c4
 obtain rfl := Option.some.inj H
 go_enter Tryz.func83, Tryz.ntmps83
 go_wp2
 go_ret
 exact ⟨RS, DW⟩

theorem icmp_Error_eq (a0 : Int) : icmp_Error.f a0 = some (Sp.icmpErr a0) := by
 unfold icmp_Error.f Sp.icmpErr
 by_cases h3 : a0 = 3
 ·simp [h3]
 by_cases h11 : a0 = 11
 ·simp [h11]
 by_cases h12 : a0 = 12 <;> simp [h3, h11, h12]
end Go.Proofs.YtfnjohklmpiboaaGreat.Pr
