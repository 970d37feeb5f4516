-- trimmed by trims.py
-- Written by a program of the session (wip/tools) out of the translation, over the kit's print; with pieces of the session's own.
import Derived.Test.YtfnjohklmpiboaaPr0
import Derived.Test.YtfnjohklmpiboaaPr11
import Derived.Test.YtfnjohklmpiboaaPr13
import Derived.Test.YtfnjohklmpiboaaPr14
import Derived.Test.YtfnjohklmpiboaaPr17
namespace Go.Proofs.Ytfnjohklmpiboaa.Pr
open Go.RowKit Go.Proofs.YtfnjohklmpiboaaW.PrintWords Go.Proofs.YtfnjohklmpiboaaW.PrintLast Go.Proofs.YtfnjohklmpiboaaW.PrintMore
attribute [local go_sem] max2_int min2_int max_two min_two max_three min_three max_four min_four   -- for this text's walks alone
set_option linter.unusedVariables false
set_option linter.unusedSimpArgs false
open Go.Proofs.Ytfnjohklmpiboaa.Sp
/-- A state of type 66 at block g of W; what its slices lead to came in by w0. -/
def IsS66 (w0 W : World) (g : Nat) (f0 : ByteArray) : Prop := W.heap[g]? = some (.cells #[.string f0] 66 (0, 0)) ∧ w0.heap.size ≤ g
theorem IsS66.grown {w0 W : World} {g : Nat} {f0 : ByteArray} {W1 : World} {row : Option Nat} (h : IsS66 w0 W g f0) (hw : W.grownBy W1 row) (hne : some g ≠ row) : IsS66 w0 W1 g f0 := by
 obtain ⟨hb, hg⟩ := h
 exact ⟨blk_grown hb hw hne, hg⟩
theorem IsS66.kept {w0 W : World} {g : Nat} {f0 : ByteArray} {W1 : World} {S : Nat → Prop} (h : IsS66 w0 W g f0) (hk : Kept W W1 S) (hne : ¬ S g) : IsS66 w0 W1 g f0 := by
 obtain ⟨hb, hg⟩ := h
 exact ⟨blk_kept hb hk hne, hg⟩
theorem IsS66.below {w0 W : World} {g : Nat} {f0 : ByteArray} {W1 : World} (h : IsS66 w0 W g f0) (hw : Below W.heap.size W W1) : IsS66 w0 W1 g f0 := h.grown (grown_of_below hw none) (by simp)
theorem IsS66.alloc {w0 W : World} {g : Nat} {f0 : ByteArray} (h : IsS66 w0 W g f0) (o : Obj) : IsS66 w0 (W.alloc o) g f0 := h.below (below_alloc (Below.refl _ _) o)
theorem IsS66.drewN {w0 W : World} {g : Nat} {f0 : ByteArray} (h : IsS66 w0 W g f0) (m : Nat) : IsS66 w0 (W.drewN m) g f0 := h
theorem IsS66.drew {w0 W : World} {g : Nat} {f0 : ByteArray} (h : IsS66 w0 W g f0) : IsS66 w0 W.drew g f0 := h
theorem IsS66.at_ {w0 W : World} {g : Nat} {f0 : ByteArray} {w' : World} {m : Nat} (hq : W.drewN m = w') (h : IsS66 w0 W g f0) : IsS66 w0 w' g f0 := by subst hq; exact IsS66.drewN h m
theorem IsS66.apart {w0 W : World} {g : Nat} {f0 : ByteArray} {α : Type} {d : Kd α} {e : Nat} {base : Nat} {ok : Nat → Prop} {v : Value} {xs : List α} (h : IsS66 w0 W g f0) (ho : d.R e W base ok v xs) (ht : ∀ q, q ∈ e :: d.E → q ≠ 66) : d.R e W base (fun k => ok k ∧ k ≠ g) v xs := by
 obtain ⟨hb, hg⟩ := h
 exact Kd.R_types ho hb ht
theorem IsS66.own_ne {w0 W : World} {g : Nat} {f0 : ByteArray} {α : Type} {d : Kd α} {e : Nat} {base : Nat} {ok : Nat → Prop} {v : Value} {xs : List α} (h : IsS66 w0 W g f0) (ho : d.R e W base ok v xs) (ht : e ≠ 66) : some g ≠ v.ownBlock := by
 obtain ⟨hb, hg⟩ := h
 exact Kd.R_ne ho hb ht
theorem IsS66.lt {w0 W : World} {g : Nat} {f0 : ByteArray} (h : IsS66 w0 W g f0) : g < W.heap.size := by
 obtain ⟨hb, hg⟩ := h
 exact blk_lt hb
theorem IsS66.ge {w0 W : World} {g : Nat} {f0 : ByteArray} (h : IsS66 w0 W g f0) : w0.heap.size ≤ g := by
 obtain ⟨hb, hg⟩ := h
 exact hg
theorem cellS66_0 {W : World} {g : Nat} {f0 : ByteArray} (h : W.heap[g]? = some (.cells #[.string f0] 66 (0, 0))) : W.cell? ⟨g, 0, none⟩ = some (.string f0) := (blk_cell h 0).trans rfl
theorem IsS66.set_0 {w0 W : World} {g : Nat} {f0 : ByteArray} (h : IsS66 w0 W g f0) (x : ByteArray) : IsS66 w0 (W.setCell ⟨g, 0, none⟩ (.string x)) g x := by
 obtain ⟨hb, hg⟩ := h
 exact ⟨by simpa using blk_set hb 0 (.string x), hg⟩
/-! ### patch_buffer_put: function 22 -/
def patch_buffer_put.f (s0_0 : ByteArray) (a1 : Int) (a2 : Int) (a3 : Int) : Option (ByteArray) := (octet_Set.f s0_0 a1 a2 a3).bind fun bt272 => (if bt272.2 = true then (some bt272.1) else (some s0_0))
set_option maxHeartbeats 8000000 in
set_option maxRecDepth 100000 in
theorem patch_buffer_put.calls (g : Nat) (s0_0 : ByteArray) (a1 : Int) (a2 : Int) (a3 : Int) (r : ByteArray) (w0 w : World) (hI : IsS66 w0 w g s0_0) (hB : Below w0.heap.size w0 w) (h : patch_buffer_put.f s0_0 a1 a2 a3 = some r) :
  Calls Try.prog 22 #[.pointer (some ⟨g, 0, none⟩), .int .i64 a1, .int .i64 a2, .int .i64 a3] w fun e w' => e = .returned (.tuple #[]) ∧ IsS66 w0 w' g r ∧ Below w0.heap.size w0 w' ∧ KeepBut w w' g none := by
 have HI0 := AA hI
 have HK := AA (KeepBut.refl w g none)
 have HL := AA hB.size
 clear hI
 have HW0 := AA hB.size
 have HB := AA hB
 clear hB
 have H : ((octet_Set.f s0_0 a1 a2 a3).bind fun bt272 => (if bt272.2 = true then (some bt272.1) else (some s0_0))) = some r := h
 clear h
 replace H := OB H
 obtain ⟨⟨t272, t273⟩, A5, H⟩ := H
 (try set_option simprocs false in dsimp only at H)
 by_cases c6 : t273 = true
 ·subst c6
  first | rw [if_pos rfl] at H | rw [if_pos trivial] at H
  obtain rfl := Option.some.inj H
  obtain ⟨HGz7, hgz7⟩ := HI0.out
  have hcz7_0 := cellS66_0 HGz7
  have hfz7_0 := blk_frozen HGz7 0
  clear HGz7 hgz7
  go_enter Try.func22, Try.ntmps22
  go_wp2_with (first | ((with_reducible refine gkx 46 rfl ?_); refine gL 18 Try.func46 rfl (octet_Set.calls s0_0 a1 a2 a3 t272 true _ A5.out) ?_; rintro w8 hb; (try clear A5); replace HK := AA (KeepBut.trans (by repeat (first | (with_reducible first | exact HK.out | apply KeepBut.set_ | apply keep_drewN | apply keep_drew | apply keep_alloc) | exact HK.out)) (KeepBut.of_below hb g none) (.inl rfl)); replace HB := AA (below_step (by repeat (first | (with_reducible first | exact HB.out | apply below_alloc | apply pw_below_drewN | apply below_drew1 | refine below_set ?_ (IsS66.ge HI0.out)) | exact HB.out)) hb); replace HI0 := AA (IsS66.below (by repeat (first | (with_reducible first | exact HI0.out | apply IsS66.alloc | apply IsS66.drewN | apply IsS66.drew | apply IsS66.set_0) | exact HI0.out)) hb); (try clear hb); obtain ⟨HGz9, hgz9⟩ := HI0.out; have hcz9_0 := cellS66_0 HGz9; have hfz9_0 := blk_frozen HGz9 0; clear HGz9 hgz9))
  first | go_end0 | ((try simp only [Exit.inBlock, Exit.then]); refine bodyPost_ret (results_none rfl _ _ _) rfl ?_)
  exact ⟨RT, by repeat (first | (with_reducible first | exact HI0.out | apply IsS66.alloc | apply IsS66.drewN | apply IsS66.drew | apply IsS66.set_0) | exact HI0.out), by repeat (first | (with_reducible first | exact HB.out | apply below_alloc | apply pw_below_drewN | apply below_drew1 | refine below_set ?_ (IsS66.ge HI0.out)) | exact HB.out), by repeat (first | (with_reducible first | exact HK.out | apply KeepBut.set_ | apply keep_drewN | apply keep_drew | apply keep_alloc) | exact HK.out)⟩
 replace c6 := Bool.eq_false_iff.mpr c6
 subst c6
 replace H := IFN H
 obtain rfl := Option.some.inj H
 obtain ⟨HGz10, hgz10⟩ := HI0.out
 have hcz10_0 := cellS66_0 HGz10
 have hfz10_0 := blk_frozen HGz10 0
 clear HGz10 hgz10
 go_enter Try.func22, Try.ntmps22
 go_wp2_with (first | ((with_reducible refine gkx 46 rfl ?_); refine gL 18 Try.func46 rfl (octet_Set.calls s0_0 a1 a2 a3 t272 false _ A5.out) ?_; rintro w11 hb; (try clear A5); replace HK := AA (KeepBut.trans (by repeat (first | (with_reducible first | exact HK.out | apply KeepBut.set_ | apply keep_drewN | apply keep_drew | apply keep_alloc) | exact HK.out)) (KeepBut.of_below hb g none) (.inl rfl)); replace HB := AA (below_step (by repeat (first | (with_reducible first | exact HB.out | apply below_alloc | apply pw_below_drewN | apply below_drew1 | refine below_set ?_ (IsS66.ge HI0.out)) | exact HB.out)) hb); replace HI0 := AA (IsS66.below (by repeat (first | (with_reducible first | exact HI0.out | apply IsS66.alloc | apply IsS66.drewN | apply IsS66.drew | apply IsS66.set_0) | exact HI0.out)) hb); (try clear hb)))
 first | go_end0 | ((try simp only [Exit.inBlock, Exit.then]); refine bodyPost_ret (results_none rfl _ _ _) rfl ?_)
 exact ⟨RT, by repeat (first | (with_reducible first | exact HI0.out | apply IsS66.alloc | apply IsS66.drewN | apply IsS66.drew | apply IsS66.set_0) | exact HI0.out), by repeat (first | (with_reducible first | exact HB.out | apply below_alloc | apply pw_below_drewN | apply below_drew1 | refine below_set ?_ (IsS66.ge HI0.out)) | exact HB.out), by repeat (first | (with_reducible first | exact HK.out | apply KeepBut.set_ | apply keep_drewN | apply keep_drew | apply keep_alloc) | exact HK.out)⟩

theorem pt_len (s : List UInt8) (a b n : Int) : (Sp.bput s a b n).length = s.length := by
 unfold Sp.bput
 split
 case isTrue h => exact Sp.set_length s a b n h
 case isFalse => rfl
theorem patch_buffer_put_eq {s : ByteArray} (a b n : Int) (h : s.size ≤ 281474976710656) : patch_buffer_put.f s a b n = some (lb (Sp.bput (bl s) a b n)) := by
 unfold patch_buffer_put.f
 rw [octet_Set_eq _ _ _ _ h, Option.bind_some]
 simp only
 unfold Sp.bput
 by_cases hs : (Sp.set (bl s) a b n).2 = true
 ·rw [if_pos hs, if_pos hs]
 rw [if_neg hs, if_neg hs, lb_bl]
/-! ### patch_buffer_get: function 24 -/
def patch_buffer_get.f (s0_0 : ByteArray) (a1 : Int) (a2 : Int) : Option (Int × ByteArray) := (octet_Get.f s0_0 a1 a2).bind fun bt274 => (some (bt274.1, s0_0))
set_option maxHeartbeats 8000000 in
set_option maxRecDepth 100000 in
theorem patch_buffer_get.calls (g : Nat) (s0_0 : ByteArray) (a1 : Int) (a2 : Int) (r1 : Int) (r2 : ByteArray) (w0 w : World) (hI : IsS66 w0 w g s0_0) (hB : Below w0.heap.size w0 w) (h : patch_buffer_get.f s0_0 a1 a2 = some (r1, r2)) :
  Calls Try.prog 24 #[.pointer (some ⟨g, 0, none⟩), .int .i64 a1, .int .i64 a2] w fun e w' => e = .returned (.int .i64 r1) ∧ IsS66 w0 w' g r2 ∧ Below w0.heap.size w0 w' ∧ KeepBut w w' g none := by
 have HI0 := AA hI
 have HK := AA (KeepBut.refl w g none)
 have HL := AA hB.size
 clear hI
 have HW0 := AA hB.size
 have HB := AA hB
 clear hB
 have H : ((octet_Get.f s0_0 a1 a2).bind fun bt274 => (some (bt274.1, s0_0))) = some (r1, r2) := h
 clear h
 replace H := OB H
 obtain ⟨⟨t274, t275⟩, A4, H⟩ := H
 (try set_option simprocs false in dsimp only at H)
 simp only [Option.some.injEq, Prod.mk.injEq] at H
 obtain ⟨rfl, rfl⟩ := H
 obtain ⟨HGz5, hgz5⟩ := HI0.out
 have hcz5_0 := cellS66_0 HGz5
 have hfz5_0 := blk_frozen HGz5 0
 clear HGz5 hgz5
 go_enter Try.func24, Try.ntmps24
 go_wp2_with (first | ((with_reducible refine gkx 47 rfl ?_); refine gL 16 Try.func47 rfl (octet_Get.calls s0_0 a1 a2 t274 t275 _ A4.out) ?_; rintro w6 hb; (try clear A4); replace HK := AA (KeepBut.trans (by repeat (first | (with_reducible first | exact HK.out | apply KeepBut.set_ | apply keep_drewN | apply keep_drew | apply keep_alloc) | exact HK.out)) (KeepBut.of_below hb g none) (.inl rfl)); replace HB := AA (below_step (by repeat (first | (with_reducible first | exact HB.out | apply below_alloc | apply pw_below_drewN | apply below_drew1 | refine below_set ?_ (IsS66.ge HI0.out)) | exact HB.out)) hb); replace HI0 := AA (IsS66.below (by repeat (first | (with_reducible first | exact HI0.out | apply IsS66.alloc | apply IsS66.drewN | apply IsS66.drew | apply IsS66.set_0) | exact HI0.out)) hb); (try clear hb)))
 go_ret
 exact ⟨RT, by repeat (first | (with_reducible first | exact HI0.out | apply IsS66.alloc | apply IsS66.drewN | apply IsS66.drew | apply IsS66.set_0) | exact HI0.out), by repeat (first | (with_reducible first | exact HB.out | apply below_alloc | apply pw_below_drewN | apply below_drew1 | refine below_set ?_ (IsS66.ge HI0.out)) | exact HB.out), by repeat (first | (with_reducible first | exact HK.out | apply KeepBut.set_ | apply keep_drewN | apply keep_drew | apply keep_alloc) | exact HK.out)⟩

theorem patch_buffer_get_eq {s : ByteArray} (a b : Int) (h : s.size ≤ 281474976710656) : patch_buffer_get.f s a b = some ((Sp.get (bl s) a b).1, s) := by
 unfold patch_buffer_get.f
 rw [octet_Get_eq _ _ _ h, Option.bind_some]
/-! ### patch_buffer_check: function 39 -/
def patch_buffer_check.f (s0_0 : ByteArray) (a1 : Int) (a2 : Int) (a3 : Int) : Option (ByteArray) := (patch_buffer_put.f s0_0 a1 2 0).bind fun t277 => (if 0 ≤ a2 then (if a2 ≤ a3 then (if a3 ≤ (t277.size : Int) then ((cksum_Check.f (t277.extract (a2 : Int).toNat (a3 : Int).toNat)).bind fun t278 => ((patch_buffer_put.f t277 a1 2 (wrap64 (t278))).bind fun t279 => (some t279))) else (none)) else (none)) else (none))
set_option maxHeartbeats 8000000 in
set_option maxRecDepth 100000 in
theorem patch_buffer_check.calls (g : Nat) (s0_0 : ByteArray) (a1 : Int) (a2 : Int) (a3 : Int) (r : ByteArray) (w0 w : World) (hI : IsS66 w0 w g s0_0) (hB : Below w0.heap.size w0 w) (h : patch_buffer_check.f s0_0 a1 a2 a3 = some r) :
  Calls Try.prog 39 #[.pointer (some ⟨g, 0, none⟩), .int .i64 a1, .int .i64 a2, .int .i64 a3] w fun e w' => e = .returned (.tuple #[]) ∧ IsS66 w0 w' g r ∧ Below w0.heap.size w0 w' ∧ KeepBut w w' g none := by
 have HI0 := AA hI
 have HK := AA (KeepBut.refl w g none)
 have HL := AA hB.size
 clear hI
 have HW0 := AA hB.size
 have HB := AA hB
 clear hB
 have H := h
 unfold patch_buffer_check.f at H
 clear h
 replace H := OB H
 obtain ⟨t277, A5, H⟩ := H
 (try set_option simprocs false in dsimp only at H)
 replace H := IU H
 obtain ⟨c6b0, c6b1, H⟩ := H
 replace H := IU H
 obtain ⟨c7b0, c7b1, H⟩ := H
 replace H := IU H
 obtain ⟨c8b0, c8b1, H⟩ := H
 replace H := OB H
 obtain ⟨t278, A9, H⟩ := H
 (try set_option simprocs false in dsimp only at H)
 replace H := OB H
 obtain ⟨t279, A10, H⟩ := H
 (try set_option simprocs false in dsimp only at H)
 obtain rfl := Option.some.inj H
 go_enter Try.func39, Try.ntmps39
 go_wp2_with (first | ((with_reducible refine gkx 22 rfl ?_); refine goesL_ (some 10) rfl rfl Try.func22 (by kernel_rfl) rfl #[.pointer (some ⟨g, 0, none⟩), .int .i64 a1, .int .i64 2, .int .i64 0] rfl AG ?_; (with_reducible refine (patch_buffer_put.calls g s0_0 a1 2 0 t277 w0 _ ?side1 ?side2 A5.out).mono ?_); (case side1 => repeat (first | (with_reducible first | exact HI0.out | apply IsS66.alloc | apply IsS66.drewN | apply IsS66.drew | apply IsS66.set_0) | exact HI0.out)); (case side2 => repeat (first | (with_reducible first | exact HB.out | apply below_alloc | apply pw_below_drewN | apply below_drew1 | refine below_set ?_ (IsS66.ge HI0.out)) | exact HB.out)); rintro e w11 ⟨rfl, hi, hb, hk⟩; refine ⟨_, rfl, ?_⟩; replace HK := AA (KeepBut.trans (by repeat (first | (with_reducible first | exact HK.out | apply KeepBut.set_ | apply keep_drewN | apply keep_drew | apply keep_alloc) | exact HK.out)) hk (.inl rfl)); replace HB := AA hb; replace HI0 := AA hi; (try clear hb); (try clear hk); (try clear hi); obtain ⟨HGz12, hgz12⟩ := HI0.out; have hcz12_0 := cellS66_0 HGz12; have hfz12_0 := blk_frozen HGz12 0; clear HGz12 hgz12) | ((with_reducible refine gkx 74 rfl ?_); refine gL 20 Try.func74 rfl (cksum_Check.calls (t277.extract (a2 : Int).toNat (a3 : Int).toNat) t278 _ A9.out) ?_; rintro w13 hb; (try clear A9); replace HK := AA (KeepBut.trans (by repeat (first | (with_reducible first | exact HK.out | apply KeepBut.set_ | apply keep_drewN | apply keep_drew | apply keep_alloc) | exact HK.out)) (KeepBut.of_below hb g none) (.inl rfl)); replace HB := AA (below_step (by repeat (first | (with_reducible first | exact HB.out | apply below_alloc | apply pw_below_drewN | apply below_drew1 | refine below_set ?_ (IsS66.ge HI0.out)) | exact HB.out)) hb); replace HI0 := AA (IsS66.below (by repeat (first | (with_reducible first | exact HI0.out | apply IsS66.alloc | apply IsS66.drewN | apply IsS66.drew | apply IsS66.set_0) | exact HI0.out)) hb); (try clear hb); (try clear hk); (try clear hi)) | ((with_reducible refine gkx 22 rfl ?_); refine goesL_ (some 22) rfl rfl Try.func22 (by kernel_rfl) rfl #[.pointer (some ⟨g, 0, none⟩), .int .i64 a1, .int .i64 2, .int .i64 (wrap64 (t278))] rfl AG ?_; (with_reducible refine (patch_buffer_put.calls g t277 a1 2 (wrap64 (t278)) t279 w0 _ ?side1 ?side2 A10.out).mono ?_); (case side1 => repeat (first | (with_reducible first | exact HI0.out | apply IsS66.alloc | apply IsS66.drewN | apply IsS66.drew | apply IsS66.set_0) | exact HI0.out)); (case side2 => repeat (first | (with_reducible first | exact HB.out | apply below_alloc | apply pw_below_drewN | apply below_drew1 | refine below_set ?_ (IsS66.ge HI0.out)) | exact HB.out)); rintro e w14 ⟨rfl, hi, hb, hk⟩; refine ⟨_, rfl, ?_⟩; replace HK := AA (KeepBut.trans (by repeat (first | (with_reducible first | exact HK.out | apply KeepBut.set_ | apply keep_drewN | apply keep_drew | apply keep_alloc) | exact HK.out)) hk (.inl rfl)); replace HB := AA hb; replace HI0 := AA hi; (try clear hb); (try clear hk); (try clear hi)))
 first | go_end0 | ((try simp only [Exit.inBlock, Exit.then]); refine bodyPost_ret (results_none rfl _ _ _) rfl ?_)
 exact ⟨RT, by repeat (first | (with_reducible first | exact HI0.out | apply IsS66.alloc | apply IsS66.drewN | apply IsS66.drew | apply IsS66.set_0) | exact HI0.out), by repeat (first | (with_reducible first | exact HB.out | apply below_alloc | apply pw_below_drewN | apply below_drew1 | refine below_set ?_ (IsS66.ge HI0.out)) | exact HB.out), by repeat (first | (with_reducible first | exact HK.out | apply KeepBut.set_ | apply keep_drewN | apply keep_drew | apply keep_alloc) | exact HK.out)⟩

theorem patch_buffer_check_eq {s : ByteArray} {a f t : Int} (h : s.size ≤ 281474976710656) (h0 : 0 ≤ f) (h1 : f ≤ t) (h2 : t ≤ s.size) : patch_buffer_check.f s a f t = some (lb (Sp.recheck (bl s) a f t)) := by
 have hl := pt_len (bl s) a 2 0
 rw [bl_length] at hl
 have he : (lb (Sp.bput (bl s) a 2 0)).extract f.toNat t.toNat = lb (((Sp.bput (bl s) a 2 0).take t.toNat).drop f.toNat) := Sp.bl_inj (by rw [Sp.bl_extract, Sp.bl_lb, Sp.bl_lb])
 have hc := Sp.check_bounds (((Sp.bput (bl s) a 2 0).take t.toNat).drop f.toNat)
 unfold patch_buffer_check.f
 rw [patch_buffer_put_eq _ _ _ h, Option.bind_some, if_pos h0, if_pos h1, if_pos (by rw [lb_size]; omega), he, cksum_Check_eq (by rw [lb_size, List.length_drop, List.length_take]; omega), Option.bind_some, bl_lb, wrap_id (by omega) (by omega), patch_buffer_put_eq _ _ _ (by rw [lb_size]; omega), Option.bind_some, bl_lb]
 rfl
/-! ### patch_buffer_outer: function 21 -/
def patch_buffer_outer.f (s0_0 : ByteArray) (a1 : Int) (a2 : Int) (a3 : Int) : Option (ByteArray) := (patch_buffer_get.f s0_0 8 1).bind fun bt280 => ((patch_buffer_put.f bt280.2 8 1 (wrap64 (bt280.1 - 1))).bind fun t282 => ((patch_buffer_put.f t282 12 4 (wrap64 (a2))).bind fun t283 => ((patch_buffer_put.f t283 16 4 (wrap64 (a3))).bind fun t284 => ((patch_buffer_check.f t284 10 0 a1).bind fun t285 => (some t285)))))
set_option maxHeartbeats 8000000 in
set_option maxRecDepth 100000 in
theorem patch_buffer_outer.calls (g : Nat) (s0_0 : ByteArray) (a1 : Int) (a2 : Int) (a3 : Int) (r : ByteArray) (w0 w : World) (hI : IsS66 w0 w g s0_0) (hB : Below w0.heap.size w0 w) (h : patch_buffer_outer.f s0_0 a1 a2 a3 = some r) :
  Calls Try.prog 21 #[.pointer (some ⟨g, 0, none⟩), .int .i64 a1, .int .u32 a2, .int .u32 a3] w fun e w' => e = .returned (.tuple #[]) ∧ IsS66 w0 w' g r ∧ Below w0.heap.size w0 w' ∧ KeepBut w w' g none := by
 have HI0 := AA hI
 have HK := AA (KeepBut.refl w g none)
 have HL := AA hB.size
 clear hI
 have HW0 := AA hB.size
 have HB := AA hB
 clear hB
 have H := h
 unfold patch_buffer_outer.f at H
 clear h
 replace H := OB H
 obtain ⟨⟨t280, t281⟩, A5, H⟩ := H
 (try set_option simprocs false in dsimp only at H)
 replace H := OB H
 obtain ⟨t282, A6, H⟩ := H
 (try set_option simprocs false in dsimp only at H)
 replace H := OB H
 obtain ⟨t283, A7, H⟩ := H
 (try set_option simprocs false in dsimp only at H)
 replace H := OB H
 obtain ⟨t284, A8, H⟩ := H
 (try set_option simprocs false in dsimp only at H)
 replace H := OB H
 obtain ⟨t285, A9, H⟩ := H
 (try set_option simprocs false in dsimp only at H)
 obtain rfl := Option.some.inj H
 go_enter Try.func21, Try.ntmps21
 go_wp2_with (first | ((with_reducible refine gkx 24 rfl ?_); refine goesL_ (some 10) rfl rfl Try.func24 (by kernel_rfl) rfl #[.pointer (some ⟨g, 0, none⟩), .int .i64 8, .int .i64 1] rfl AG ?_; (with_reducible refine (patch_buffer_get.calls g s0_0 8 1 t280 t281 w0 _ ?side1 ?side2 A5.out).mono ?_); (case side1 => repeat (first | (with_reducible first | exact HI0.out | apply IsS66.alloc | apply IsS66.drewN | apply IsS66.drew | apply IsS66.set_0) | exact HI0.out)); (case side2 => repeat (first | (with_reducible first | exact HB.out | apply below_alloc | apply pw_below_drewN | apply below_drew1 | refine below_set ?_ (IsS66.ge HI0.out)) | exact HB.out)); rintro e w10 ⟨rfl, hi, hb, hk⟩; refine ⟨_, rfl, ?_⟩; replace HK := AA (KeepBut.trans (by repeat (first | (with_reducible first | exact HK.out | apply KeepBut.set_ | apply keep_drewN | apply keep_drew | apply keep_alloc) | exact HK.out)) hk (.inl rfl)); replace HB := AA hb; replace HI0 := AA hi; (try clear hb); (try clear hk); (try clear hi)) | ((with_reducible refine gkx 22 rfl ?_); refine goesL_ (some 12) rfl rfl Try.func22 (by kernel_rfl) rfl #[.pointer (some ⟨g, 0, none⟩), .int .i64 8, .int .i64 1, .int .i64 (wrap64 (t280 - 1))] rfl AG ?_; (with_reducible refine (patch_buffer_put.calls g t281 8 1 (wrap64 (t280 - 1)) t282 w0 _ ?side1 ?side2 A6.out).mono ?_); (case side1 => repeat (first | (with_reducible first | exact HI0.out | apply IsS66.alloc | apply IsS66.drewN | apply IsS66.drew | apply IsS66.set_0) | exact HI0.out)); (case side2 => repeat (first | (with_reducible first | exact HB.out | apply below_alloc | apply pw_below_drewN | apply below_drew1 | refine below_set ?_ (IsS66.ge HI0.out)) | exact HB.out)); rintro e w11 ⟨rfl, hi, hb, hk⟩; refine ⟨_, rfl, ?_⟩; replace HK := AA (KeepBut.trans (by repeat (first | (with_reducible first | exact HK.out | apply KeepBut.set_ | apply keep_drewN | apply keep_drew | apply keep_alloc) | exact HK.out)) hk (.inl rfl)); replace HB := AA hb; replace HI0 := AA hi; (try clear hb); (try clear hk); (try clear hi)) | ((with_reducible refine gkx 22 rfl ?_); refine goesL_ (some 16) rfl rfl Try.func22 (by kernel_rfl) rfl #[.pointer (some ⟨g, 0, none⟩), .int .i64 12, .int .i64 4, .int .i64 (wrap64 (a2))] rfl AG ?_; (with_reducible refine (patch_buffer_put.calls g t282 12 4 (wrap64 (a2)) t283 w0 _ ?side1 ?side2 A7.out).mono ?_); (case side1 => repeat (first | (with_reducible first | exact HI0.out | apply IsS66.alloc | apply IsS66.drewN | apply IsS66.drew | apply IsS66.set_0) | exact HI0.out)); (case side2 => repeat (first | (with_reducible first | exact HB.out | apply below_alloc | apply pw_below_drewN | apply below_drew1 | refine below_set ?_ (IsS66.ge HI0.out)) | exact HB.out)); rintro e w12 ⟨rfl, hi, hb, hk⟩; refine ⟨_, rfl, ?_⟩; replace HK := AA (KeepBut.trans (by repeat (first | (with_reducible first | exact HK.out | apply KeepBut.set_ | apply keep_drewN | apply keep_drew | apply keep_alloc) | exact HK.out)) hk (.inl rfl)); replace HB := AA hb; replace HI0 := AA hi; (try clear hb); (try clear hk); (try clear hi)) | ((with_reducible refine gkx 22 rfl ?_); refine goesL_ (some 20) rfl rfl Try.func22 (by kernel_rfl) rfl #[.pointer (some ⟨g, 0, none⟩), .int .i64 16, .int .i64 4, .int .i64 (wrap64 (a3))] rfl AG ?_; (with_reducible refine (patch_buffer_put.calls g t283 16 4 (wrap64 (a3)) t284 w0 _ ?side1 ?side2 A8.out).mono ?_); (case side1 => repeat (first | (with_reducible first | exact HI0.out | apply IsS66.alloc | apply IsS66.drewN | apply IsS66.drew | apply IsS66.set_0) | exact HI0.out)); (case side2 => repeat (first | (with_reducible first | exact HB.out | apply below_alloc | apply pw_below_drewN | apply below_drew1 | refine below_set ?_ (IsS66.ge HI0.out)) | exact HB.out)); rintro e w13 ⟨rfl, hi, hb, hk⟩; refine ⟨_, rfl, ?_⟩; replace HK := AA (KeepBut.trans (by repeat (first | (with_reducible first | exact HK.out | apply KeepBut.set_ | apply keep_drewN | apply keep_drew | apply keep_alloc) | exact HK.out)) hk (.inl rfl)); replace HB := AA hb; replace HI0 := AA hi; (try clear hb); (try clear hk); (try clear hi)) | ((with_reducible refine gkx 39 rfl ?_); refine goesL_ (some 23) rfl rfl Try.func39 (by kernel_rfl) rfl #[.pointer (some ⟨g, 0, none⟩), .int .i64 10, .int .i64 0, .int .i64 a1] rfl AG ?_; (with_reducible refine (patch_buffer_check.calls g t284 10 0 a1 t285 w0 _ ?side1 ?side2 A9.out).mono ?_); (case side1 => repeat (first | (with_reducible first | exact HI0.out | apply IsS66.alloc | apply IsS66.drewN | apply IsS66.drew | apply IsS66.set_0) | exact HI0.out)); (case side2 => repeat (first | (with_reducible first | exact HB.out | apply below_alloc | apply pw_below_drewN | apply below_drew1 | refine below_set ?_ (IsS66.ge HI0.out)) | exact HB.out)); rintro e w14 ⟨rfl, hi, hb, hk⟩; refine ⟨_, rfl, ?_⟩; replace HK := AA (KeepBut.trans (by repeat (first | (with_reducible first | exact HK.out | apply KeepBut.set_ | apply keep_drewN | apply keep_drew | apply keep_alloc) | exact HK.out)) hk (.inl rfl)); replace HB := AA hb; replace HI0 := AA hi; (try clear hb); (try clear hk); (try clear hi)))
 first | go_end0 | ((try simp only [Exit.inBlock, Exit.then]); refine bodyPost_ret (results_none rfl _ _ _) rfl ?_)
 exact ⟨RT, by repeat (first | (with_reducible first | exact HI0.out | apply IsS66.alloc | apply IsS66.drewN | apply IsS66.drew | apply IsS66.set_0) | exact HI0.out), by repeat (first | (with_reducible first | exact HB.out | apply below_alloc | apply pw_below_drewN | apply below_drew1 | refine below_set ?_ (IsS66.ge HI0.out)) | exact HB.out), by repeat (first | (with_reducible first | exact HK.out | apply KeepBut.set_ | apply keep_drewN | apply keep_drew | apply keep_alloc) | exact HK.out)⟩

theorem pt_small (s : List UInt8) (a b : Int) : 0 ≤ (Sp.get s a b).1 ∧ (Sp.get s a b).1 < 4294967296 := by
 unfold Sp.get
 split
 case isTrue h => have := Sp.has_iff.1 h; exact Sp.beNum_small _ (by rw [List.length_take]; omega)
 case isFalse => exact ⟨by decide, by decide⟩
theorem patch_buffer_outer_eq {s : ByteArray} {n x y : Int} (h : s.size ≤ 281474976710656) (h0 : 0 ≤ n) (h1 : n ≤ s.size) (hx : 0 ≤ x ∧ x ≤ 4294967295) (hy : 0 ≤ y ∧ y ≤ 4294967295) : patch_buffer_outer.f s n x y = some (lb (Sp.outer (bl s) n x y)) := by
 have hg := pt_small (bl s) 8 1
 have l1 := pt_len (bl s) 8 1 ((Sp.get (bl s) 8 1).1 - 1)
 have l2 := pt_len (Sp.bput (bl s) 8 1 ((Sp.get (bl s) 8 1).1 - 1)) 12 4 x
 have l3 := pt_len (Sp.bput (Sp.bput (bl s) 8 1 ((Sp.get (bl s) 8 1).1 - 1)) 12 4 x) 16 4 y
 rw [bl_length] at l1
 unfold patch_buffer_outer.f
 rw [patch_buffer_get_eq _ _ h, Option.bind_some]
 simp only
 rw [wrap_id (n := (Sp.get (bl s) 8 1).1 - 1) (by omega) (by omega), wrap_id (n := x) (by omega) (by omega), wrap_id (n := y) (by omega) (by omega), patch_buffer_put_eq _ _ _ h, Option.bind_some, patch_buffer_put_eq _ _ _ (by rw [lb_size]; omega), Option.bind_some, bl_lb, patch_buffer_put_eq _ _ _ (by rw [lb_size]; omega), Option.bind_some, bl_lb, patch_buffer_check_eq (by rw [lb_size]; omega) (by decide) h0 (by rw [lb_size]; omega), Option.bind_some, bl_lb]
 rfl
/-! ### patch_Plain: function 12 -/
theorem pt_stop {p : Prop} (h : Aside0 p) : p := h.out
theorem pt_step {W W' : World} {x : Obj} {B : Nat} (h : W.heap[B]? = some x) (hb : Below W.heap.size W W') : W'.heap[B]? = some x := by
 rw [hb.block _ (Array.getElem?_eq_some_iff.1 h).1]; exact h
theorem pt_alloc {W : World} {x : Obj} {B : Nat} (o : Obj) (h : W.heap[B]? = some x) : (W.alloc o).heap[B]? = some x := by
 have hl := (Array.getElem?_eq_some_iff.1 h).1
 simp only [World.alloc, Array.getElem?_push]
 rw [if_neg (by omega)]; exact h
theorem pt_lt {W : World} {x : Obj} {B : Nat} (h : W.heap[B]? = some x) : B < W.heap.size := (Array.getElem?_eq_some_iff.1 h).1
theorem pt_below {B : Nat} {w W W' : World} (h : Below B w W) (hB : B ≤ W.heap.size) (hb : Below W.heap.size W W') : Below B w W' := h.trans ⟨hb.os, hb.tape, hb.output, hb.size, fun k hk => hb.block k (by omega)⟩
theorem pt_drew {W : World} {x : Obj} {B : Nat} (h : W.heap[B]? = some x) : W.drew.heap[B]? = some x := h
theorem pt_below_drew {B : Nat} {w W : World} (h : Below B w W) : Below B w W.drew := ⟨h.os, h.tape, h.output, h.size, h.block⟩
theorem pt_keep {W W' : World} {x : Obj} {B g : Nat} (h : W.heap[B]? = some x) (hk : KeepBut W W' g none) (hne : B ≠ g) : W'.heap[B]? = some x := (hk.2 B (pt_lt h) hne (by simp)).trans h
theorem pt_sets {w0 w : World} {A B gb : Nat} {t t1 t2 : TypeId} {cs ds : Array Value} {c0 c1 c2 c3 c4 c5 c6 c7 c8 c9 c10 c11 c12 c13 : Value} (p0 p1 p2 p3 p4 p5 p6 p7 p8 p9 p10 p11 p12 p13 : Int) (hT : w.heap[A]? = some (.cells cs t1 (0, 0))) (hZ : w.heap[B]? = some (.cells ds t2 (0, 0))) (hX : w.heap[gb]? = some (.cells #[c0, c1, c2, c3, c4, c5, c6, c7, c8, c9, c10, c11, c12, c13] t (0, 0))) (hB : Below A w0 w) (h1 : A < gb) (h2 : B < gb) : ∃ w3, ((((((((((((((w.setCell ⟨gb, 0, none⟩ (.int .i64 p0)).setCell ⟨gb, 1, none⟩ (.int .i64 p1)).setCell ⟨gb, 2, none⟩ (.int .i64 p2)).setCell ⟨gb, 3, none⟩ (.int .i64 p3)).setCell ⟨gb, 4, none⟩ (.int .u32 p4)).setCell ⟨gb, 5, none⟩ (.int .u32 p5)).setCell ⟨gb, 6, none⟩ (.int .i64 p6)).setCell ⟨gb, 7, none⟩ (.int .i64 p7)).setCell ⟨gb, 8, none⟩ (.int .i64 p8)).setCell ⟨gb, 9, none⟩ (.int .i64 p9)).setCell ⟨gb, 10, none⟩ (.int .u32 p10)).setCell ⟨gb, 11, none⟩ (.int .u32 p11)).setCell ⟨gb, 12, none⟩ (.int .i64 p12)).setCell ⟨gb, 13, none⟩ (.int .i64 p13)) = w3 ∧ w3.heap[A]? = some (.cells cs t1 (0, 0)) ∧ w3.heap[B]? = some (.cells ds t2 (0, 0)) ∧ w3.heap[gb]? = some (.cells (rr14 p0 p1 p2 p3 p4 p5 p6 p7 p8 p9 p10 p11 p12 p13) t (0, 0)) ∧ Below A w0 w3 :=
 ⟨_, rfl, far14 hT (by omega), far14 hZ (by omega), put14 hX, bel14 hB (by omega)⟩
set_option maxRecDepth 100000 in
set_option maxHeartbeats 16000000 in
theorem pt_open_x (s : ByteArray) (w : World) (A : Nat) (hA : w.heap.size = A) (kind src dst sp dp er : Int) (p0 p1 p2 p3 p4 p5 p6 p7 p8 p9 p10 p11 p12 p13 : Int) (HC : ∀ W, Calls Try.prog 15 #[.string s] W fun e w' => e = .returned (.tuple #[.agg (rr14 p0 p1 p2 p3 p4 p5 p6 p7 p8 p9 p10 p11 p12 p13), .int .i64 er]) ∧ Below W.heap.size W w') (ba bb : Bool) (r1 r2 : ByteArray) (H1 : ∀ W, Calls Try.prog 45 #[.int .i64 2, .int .i64 sp] W fun e w' => e = .returned (.tuple #[.string r1, .bool ba]) ∧ Below W.heap.size W w') (H2 : ∀ W, Calls Try.prog 45 #[.int .i64 2, .int .i64 dp] W fun e w' => e = .returned (.tuple #[.string r2, .bool bb]) ∧ Below W.heap.size W w') (E : Int)
  (hc : (er ≠ 0 ∧ E = er) ∨ (er = 0 ∧ ((p0 ≠ kind ∧ E = 1) ∨ (p0 = kind ∧ ((ba = false ∧ E = 1) ∨ (ba = true ∧ ((bb = false ∧ E = 1) ∨ (bb = true ∧ p9 < 2 ∧ E = 11)))))))) :
  Calls Try.prog 20 #[.string s, .int .i64 kind, .agg #[.int .u32 src, .int .u32 dst, .int .i64 sp, .int .i64 dp]] w fun e w' => e = .returned (.tuple #[.agg (rr14 p0 p1 p2 p3 p4 p5 p6 p7 p8 p9 p10 p11 p12 p13), .pointer none, .int .i64 E]) ∧ Below A w w' := by
 have hAe := Lib.hid hA
 have hC := Lib.hid hc
 clear hA hc
 go_enter Try.func20, Try.ntmps20
 go_wp2_with (fail)
 refine (HC _).mono ?_
 rintro e w1 ⟨rfl, hb⟩
 have hT : w1.heap[w.heap.size]? = some (.cells #[.int .u32 src, .int .u32 dst, .int .i64 sp, .int .i64 dp] 27 (0, 0)) := pt_step (pt_alloc _ (World.alloc_heap_new w _)) hb
 have hZ : w1.heap[w.heap.size + 1]? = some (.cells (rr14 0 0 0 0 0 0 0 0 0 0 0 0 0 0) 42 (0, 0)) := by
  have := World.alloc_heap_new (w.alloc (.cells #[.int .u32 src, .int .u32 dst, .int .i64 sp, .int .i64 dp] 27)) (.cells (rr14 0 0 0 0 0 0 0 0 0 0 0 0 0 0) 42)
  rw [World.size_alloc] at this
  exact pt_step this hb
 have hB := below_step (below_alloc (below_alloc (Below.refl _ _) _) _) hb
 clear hb
 rw [hAe.out] at hT hZ hB ⊢
 have hA1 : A + 1 < w1.heap.size := pt_lt hZ
 have HQ0 := Lib.hid (And.intro hT (And.intro hZ hB))
 clear hT hZ hB
 go_wp2_with (first | ((with_reducible refine gate_dst (N := 9) rfl ?_); refine bx 9 42 #[.int .i64 0, .int .i64 0, .int .i64 0, .int .i64 0, .int .u32 0, .int .u32 0, .int .i64 0, .int .i64 0, .int .i64 0, .int .i64 0, .int .u32 0, .int .u32 0, .int .i64 0, .int .i64 0] ?_; intro gb hg w2 hbox hb2; have hlt : A + 1 < gb := (by omega); have HQ := Lib.hid (And.intro (pt_step HQ0.out.1 hb2) (And.intro (pt_step HQ0.out.2.1 hb2) (And.intro hbox (pt_below HQ0.out.2.2 (by omega) hb2)))); have x_ := blk14 hbox; clear hbox hb2 hg HQ0) | ((with_reducible refine gate_dst (N := 21) rfl ?_); refine pt_stop ?_))
 obtain ⟨hT, hZ, hX, hB⟩ := HQ.out
 clear HQ x_
 refine Aside0.mk ?_
 obtain ⟨w3, e3, hT1, hZ1, hX1, hB1⟩ := pt_sets p0 p1 p2 p3 p4 p5 p6 p7 p8 p9 p10 p11 p12 p13 hT hZ hX hB (by omega) (by omega)
 rw [e3]
 clear hT hZ hX hB e3
 rcases hC.out with ⟨h, rfl⟩ | ⟨rfl, hk⟩
 have d0 := NT h
 have d1 := BF h
 clear h hC hT1
 rotate_left
 have t_ := blk4 hT1
 have HQ := Lib.hid (And.intro hT1 (And.intro hZ1 (And.intro hX1 (And.intro hB1 hk))))
 clear hT1 hZ1 hX1 hB1 hk hC
 focus go_wp2_with (fail)
 obtain ⟨hT1, hZ1, hX1, hB1, hk⟩ := HQ.out
 clear HQ t_
 refine (H1 _).mono ?_
 rintro e w4 ⟨rfl, hb⟩
 replace hB1 := pt_below hB1 (by have := pt_lt hZ1; omega) hb
 replace hT1 := pt_step hT1 hb
 replace hZ1 := pt_step hZ1 hb
 replace hX1 := pt_step hX1 hb
 clear hb
 have t_ := blk4 hT1
 have HQ := Lib.hid (And.intro hZ1 (And.intro hX1 (And.intro hB1 hk)))
 clear hT1 hZ1 hX1 hB1 hk
 focus go_wp2_with (fail)
 obtain ⟨hZ1, hX1, hB1, hk⟩ := HQ.out
 clear HQ t_
 refine (H2 _).mono ?_
 rintro e w5 ⟨rfl, hb⟩
 replace hB1 := pt_below hB1 (by have := pt_lt hZ1; omega) hb
 replace hZ1 := pt_step hZ1 hb
 replace hX1 := pt_step hX1 hb
 clear hb
 rcases hk with ⟨h, rfl⟩ | ⟨rfl, ⟨rfl, rfl⟩ | ⟨rfl, ⟨rfl, rfl⟩ | ⟨rfl, h, rfl⟩⟩⟩
 have d0 := NT h
 have d1 := BF h
 clear h
 rotate_left 3
 have d0 := decide_eq_true h
 clear h
 all_goals
  have z_ := blk14 hZ1
  have x_ := blk14 hX1
  have HQ := Lib.hid (And.intro hZ1 hB1)
  clear hZ1 hB1 hX1
  go_wp2_with (fail)
  obtain ⟨hZ1, hB1⟩ := HQ.out
  (try simp only [Exit.inBlock, Exit.then])
  refine bodyPost_ret (results_ctt rfl _ _ (A + 1) 42 _ (0, 0) _ rfl (put14 hZ1) Try.underlying42 rfl (by kernel_rfl)) rfl ?_
  exact ⟨rfl, bel14 hB1 (by omega)⟩
set_option maxRecDepth 100000 in
set_option maxHeartbeats 8000000 in
theorem pt_open_ok (s : ByteArray) (w : World) (A : Nat) (hA : w.heap.size = A) (kind src dst sp dp er : Int) (p0 p1 p2 p3 p4 p5 p6 p7 p8 p9 p10 p11 p12 p13 : Int) (HC : ∀ W, Calls Try.prog 15 #[.string s] W fun e w' => e = .returned (.tuple #[.agg #[.int .i64 p0, .int .i64 p1, .int .i64 p2, .int .i64 p3, .int .u32 p4, .int .u32 p5, .int .i64 p6, .int .i64 p7, .int .i64 p8, .int .i64 p9, .int .u32 p10, .int .u32 p11, .int .i64 p12, .int .i64 p13], .int .i64 er]) ∧ Below W.heap.size W w') (her : er = 0) (ba bb : Bool) (r1 r2 : ByteArray) (H1 : ∀ W, Calls Try.prog 45 #[.int .i64 2, .int .i64 sp] W fun e w' => e = .returned (.tuple #[.string r1, .bool ba]) ∧ Below W.heap.size W w') (H2 : ∀ W, Calls Try.prog 45 #[.int .i64 2, .int .i64 dp] W fun e w' => e = .returned (.tuple #[.string r2, .bool bb]) ∧ Below W.heap.size W w') (hk : p0 = kind) (ha : ba = true) (hbb : bb = true) (hl : ¬ p9 < 2) (h20 : 0 ≤ p2) (h2s : p2 ≤ s.size) :
  Calls Try.prog 20 #[.string s, .int .i64 kind, .agg #[.int .u32 src, .int .u32 dst, .int .i64 sp, .int .i64 dp]] w fun e w' => ∃ g, e = .returned (.tuple #[.agg #[.int .i64 p0, .int .i64 p1, .int .i64 p2, .int .i64 p3, .int .u32 p4, .int .u32 p5, .int .i64 p6, .int .i64 p7, .int .i64 p8, .int .i64 p9, .int .u32 p10, .int .u32 p11, .int .i64 p12, .int .i64 p13], .pointer (some ⟨g, 0, none⟩), .int .i64 0]) ∧ A ≤ g ∧ w'.heap[g]? = some (.cells #[.string (s.extract 0 p2.toNat)] 66 (0, 0)) ∧ Below A w w' := by
 subst her
 subst hk
 subst ha
 subst hbb
 have d0 : decide (p9 < 2) = false := decide_eq_false hl
 have q1 : decide (0 ≤ p2) = true := decide_eq_true h20
 have q2 : decide (p2 ≤ (s.size : Int)) = true := decide_eq_true h2s
 have q3 : p2.toNat ≤ s.size := by omega
 have hAe := Lib.hid hA
 clear hA
 go_enter Try.func20, Try.ntmps20
 go_wp2_with (fail)
 refine (HC _).mono ?_
 rintro e w1 ⟨rfl, hb⟩
 have hT : w1.heap[w.heap.size]? = some (.cells #[.int .u32 src, .int .u32 dst, .int .i64 sp, .int .i64 dp] 27 (0, 0)) := pt_step (pt_alloc _ (World.alloc_heap_new w _)) hb
 have hZ : w1.heap[w.heap.size + 1]? = some (.cells (rr14 0 0 0 0 0 0 0 0 0 0 0 0 0 0) 42 (0, 0)) := by
  have := World.alloc_heap_new (w.alloc (.cells #[.int .u32 src, .int .u32 dst, .int .i64 sp, .int .i64 dp] 27)) (.cells (rr14 0 0 0 0 0 0 0 0 0 0 0 0 0 0) 42)
  rw [World.size_alloc] at this
  exact pt_step this hb
 have hB := below_step (below_alloc (below_alloc (Below.refl _ _) _) _) hb
 clear hb
 rw [hAe.out] at hT hZ hB ⊢
 have hA1 : A + 1 < w1.heap.size := pt_lt hZ
 have HQ0 := Lib.hid (And.intro hT (And.intro hZ hB))
 clear hT hZ hB
 go_wp2_with (first | ((with_reducible refine gate_dst (N := 9) rfl ?_); refine bx 9 42 #[.int .i64 0, .int .i64 0, .int .i64 0, .int .i64 0, .int .u32 0, .int .u32 0, .int .i64 0, .int .i64 0, .int .i64 0, .int .i64 0, .int .u32 0, .int .u32 0, .int .i64 0, .int .i64 0] ?_; intro gb hg w2 hbox hb2; have hlt : A + 1 < gb := (by omega); have HQ := Lib.hid (And.intro (pt_step HQ0.out.1 hb2) (And.intro (pt_step HQ0.out.2.1 hb2) (And.intro hbox (pt_below HQ0.out.2.2 (by omega) hb2)))); have x_ := blk14 hbox; clear hbox hb2 hg HQ0) | ((with_reducible refine gate_dst (N := 21) rfl ?_); refine pt_stop ?_))
 obtain ⟨hT, hZ, hX, hB⟩ := HQ.out
 clear HQ x_
 refine Aside0.mk ?_
 obtain ⟨w3, e3, hT1, hZ1, hX1, hB1⟩ := pt_sets p0 p1 p2 p3 p4 p5 p6 p7 p8 p9 p10 p11 p12 p13 hT hZ hX hB (by omega) (by omega)
 rw [e3]
 clear hT hZ hX hB e3
 have t_ := blk4 hT1
 have HQ := Lib.hid (And.intro hT1 (And.intro hZ1 (And.intro hX1 hB1)))
 clear hT1 hZ1 hX1 hB1
 go_wp2_with (fail)
 obtain ⟨hT1, hZ1, hX1, hB1⟩ := HQ.out
 clear HQ t_
 refine (H1 _).mono ?_
 rintro e w4 ⟨rfl, hb⟩
 have hT2 := pt_step hT1 hb
 have hZ2 := pt_step hZ1 hb
 have hX2 := pt_step hX1 hb
 have hB2 := pt_below hB1 (by have := pt_lt hZ1; omega) hb
 clear hb hT1 hZ1 hX1 hB1
 have t_ := blk4 hT2
 have HQ := Lib.hid (And.intro hT2 (And.intro hZ2 (And.intro hX2 hB2)))
 clear hT2 hZ2 hX2 hB2
 go_wp2_with (fail)
 obtain ⟨hT2, hZ2, hX2, hB2⟩ := HQ.out
 clear HQ t_
 refine (H2 _).mono ?_
 rintro e w5 ⟨rfl, hb⟩
 have hZ3 := pt_step hZ2 hb
 have hX3 := pt_step hX2 hb
 have hB3 := pt_below hB2 (by have := pt_lt hZ2; omega) hb
 clear hb hT2 hZ2 hX2 hB2
 have x9 := (blk_cell hX3 9).trans (show _ = some (.int .i64 p9) from rfl)
 have x0 := (blk_cell hX3 0).trans (show _ = some (.int .i64 p0) from rfl)
 have HQ := Lib.hid (And.intro hZ3 (And.intro hX3 hB3))
 clear hZ3 hX3 hB3
 go_wp2_with (fail)
 obtain ⟨hZ3, hX3, hB3⟩ := HQ.out
 clear HQ x0 x9
 refine start_ (n := 10) (S := fun w' => c14 gb p0 p1 p2 p3 p4 p5 p6 p7 p8 p9 p10 p11 p12 p13 w') (ds := []) (bm 10 0x0) (by kernel_rfl) rfl rfl (HCs ⟨pt_drew hX3⟩) (fun hHeld => ?_)
 have hZ4 := pt_drew hZ3
 have hX4 := pt_drew hX3
 have hB4 := pt_below_drew hB3
 clear hZ3 hX3 hB3
 generalize w5.drew = u at hZ4 hX4 hB4 hHeld ⊢
 refine tk 0 55 (bm 10 0x1) hHeld ?_
 refine pk 1 56 (bm 10 0x3) ?_
 refine pk 2 57 (bm 10 0x7) ?_
 refine tk 3 58 (bm 10 0xf) hHeld ?_
 refine pk 4 59 (bm 10 0x1f) ?_
 refine pk 5 60 (bm 10 0x3f) ?_
 refine two_ (i := 6) (j := 7) (Ni := some 61) (Nj := none) (bm 10 0x7f) (bm 10 0xbf) rfl rfl rfl rfl (by kernel_rfl) (by decide) (by decide) (fun K hK => ?_) (fun K hK => ?_)
 ·refine value_ (w1 := ?_) (v := ?_) (by rfl) rfl ?_ ?_
  rotate_left 2
  ·go_simp
   constructor
   ·rfl
   rfl
  have hZ5 := pt_alloc (.cells #[.string (s.extract 0 p2.toNat)] 66) hZ4
  have hX5 := pt_alloc (.cells #[.string (s.extract 0 p2.toNat)] 66) hX4
  have hG5 := World.alloc_heap_new u (.cells #[.string (s.extract 0 p2.toNat)] 66)
  have hAu : A + 1 < u.heap.size := pt_lt hZ4
  have hB5 : Below A w (u.alloc (.cells #[.string (s.extract 0 p2.toNat)] 66)) := Below.alloc hB4 (by omega) _
  clear hHeld hZ4 hX4 hB4
  refine hK.out _ _ (HCs ⟨hX5⟩) (fun hHeld => ?_)
  clear hK K
  refine nm 61 ?_
  generalize u.heap.size = g at *
  generalize u.alloc (.cells #[.string (s.extract 0 p2.toNat)] 66) = u5 at hZ5 hX5 hG5 hB5 hHeld ⊢
  clear u
  have z_ := blk14 hZ5
  refine one_ (i := 7) (N := none) (bm 10 0xff) rfl rfl (by kernel_rfl) (by decide) (fun K hK => ?_)
  refine skip_ (w1 := ?_) (by rfl) rfl ?_ ?_
  rotate_left
  ·go_simp
   rfl
  refine gen14 ⟨hZ5⟩ (fun u6 hp hf hb => ?_)
  have hX6 := hf _ _ (by omega) hX5
  have hG6 := hf _ _ (by omega) hG5
  have hB6 := hb _ _ (by omega) hB5
  have hZ6 := hp.out
  clear hHeld hp hf hb hZ5 hX5 hG5 hB5
  refine hK.out _ _ (HCs ⟨hX6⟩) (fun hHeld => ?_)
  clear hK K z_
  clear u5
  refine pk 8 7 (bm 10 0x1ff) ?_
  refine pk 9 8 (bm 10 0x3ff) ?_
  refine done_ (by kernel_rfl) ?_
  go_wp2_with (fail)
  (try simp only [Exit.inBlock, Exit.then])
  refine bodyPost_ret (results_ctt rfl _ _ (A + 1) 42 #[.int .i64 p0, .int .i64 p1, .int .i64 p2, .int .i64 p3, .int .u32 p4, .int .u32 p5, .int .i64 p6, .int .i64 p7, .int .i64 p8, .int .i64 p9, .int .u32 p10, .int .u32 p11, .int .i64 p12, .int .i64 p13] (0, 0) _ rfl ?_ Try.underlying42 rfl (by kernel_rfl)) rfl ?_
  ·exact hZ6
  exact ⟨g, rfl, by omega, hG6, hB6⟩
 have z_ := blk14 hZ4
 refine skip_ (w1 := ?_) (by rfl) rfl ?_ ?_
 rotate_left
 ·go_simp
  rfl
 refine gen14 ⟨hZ4⟩ (fun u5 hp hf hb => ?_)
 have hX5 := hf _ _ (by omega) hX4
 have hB5 := hb _ _ (by omega) hB4
 have hZ5 := hp.out
 clear hHeld hp hf hb hZ4 hX4 hB4
 refine hK.out _ _ (HCs ⟨hX5⟩) (fun hHeld => ?_)
 clear hK K z_
 clear u
 refine one_ (i := 6) (N := some 61) (bm 10 0xff) rfl rfl (by kernel_rfl) (by decide) (fun K hK => ?_)
 refine value_ (w1 := ?_) (v := ?_) (by rfl) rfl ?_ ?_
 rotate_left 2
 ·go_simp
  constructor
  ·rfl
  rfl
 have hZ6 := pt_alloc (.cells #[.string (s.extract 0 p2.toNat)] 66) hZ5
 have hX6 := pt_alloc (.cells #[.string (s.extract 0 p2.toNat)] 66) hX5
 have hG6 := World.alloc_heap_new u5 (.cells #[.string (s.extract 0 p2.toNat)] 66)
 have hAu : A + 1 < u5.heap.size := pt_lt hZ5
 have hB6 : Below A w (u5.alloc (.cells #[.string (s.extract 0 p2.toNat)] 66)) := Below.alloc hB5 (by omega) _
 clear hHeld hZ5 hX5 hB5
 refine hK.out _ _ (HCs ⟨hX6⟩) (fun hHeld => ?_)
 clear hK K
 refine nm 61 ?_
 generalize u5.heap.size = g at *
 generalize u5.alloc (.cells #[.string (s.extract 0 p2.toNat)] 66) = u6 at hZ6 hX6 hG6 hB6 hHeld ⊢
 clear u5
 refine pk 8 7 (bm 10 0x1ff) ?_
 refine pk 9 8 (bm 10 0x3ff) ?_
 refine done_ (by kernel_rfl) ?_
 go_wp2_with (fail)
 (try simp only [Exit.inBlock, Exit.then])
 refine bodyPost_ret (results_ctt rfl _ _ (A + 1) 42 #[.int .i64 p0, .int .i64 p1, .int .i64 p2, .int .i64 p3, .int .u32 p4, .int .u32 p5, .int .i64 p6, .int .i64 p7, .int .i64 p8, .int .i64 p9, .int .u32 p10, .int .u32 p11, .int .i64 p12, .int .i64 p13] (0, 0) _ rfl ?_ Try.underlying42 rfl (by kernel_rfl)) rfl ?_
 ·exact hZ6
 exact ⟨g, rfl, by omega, hG6, hB6⟩
theorem pt_put2 (n : Int) : (Sp.put 2 n).2 = Sp.fits 2 n := by unfold Sp.put; cases Sp.fits 2 n <;> rfl
theorem pt_open_no {s : ByteArray} (hs : s.size ≤ 140737488355328) (kind src dst sp dp : Int) (w : World) (h : Sp.ready (bl s) kind sp dp ≠ 0) :
  Calls Try.prog 20 #[.string s, .int .i64 kind, .agg #[.int .u32 src, .int .u32 dst, .int .i64 sp, .int .i64 dp]] w fun e w' => e = .returned (.tuple #[.agg #[.int .i64 (Sp.pkt (bl s)).kind, .int .i64 (Sp.pkt (bl s)).at_, .int .i64 (Sp.pkt (bl s)).total, .int .i64 (Sp.pkt (bl s)).proto, .int .u32 (Sp.pkt (bl s)).tsrc, .int .u32 (Sp.pkt (bl s)).tdst, .int .i64 (Sp.pkt (bl s)).sp, .int .i64 (Sp.pkt (bl s)).dp, .int .i64 (Sp.pkt (bl s)).flags, .int .i64 (Sp.pkt (bl s)).ttl, .int .u32 (Sp.pkt (bl s)).src, .int .u32 (Sp.pkt (bl s)).dst, .int .i64 (Sp.pkt (bl s)).quote, .int .i64 (Sp.pkt (bl s)).inner], .pointer none, .int .i64 (Sp.ready (bl s) kind sp dp)]) ∧ Below w.heap.size w w' := by
 have HC := fun W => packet_Classify.calls s _ _ _ _ _ _ _ _ _ _ _ _ _ _ _ W (packet_Classify_eq hs)
 have H1 := fun W => octet_Put.calls 2 sp _ _ W rfl
 have H2 := fun W => octet_Put.calls 2 dp _ _ W rfl
 unfold Sp.ready at h ⊢
 by_cases he : (Sp.pkt (bl s)).e = 0
 rotate_left
 ·rw [if_neg he]
  exact pt_open_x s w _ rfl kind src dst sp dp _ _ _ _ _ _ _ _ _ _ _ _ _ _ _ HC _ _ _ _ H1 H2 _ (Or.inl ⟨he, rfl⟩)
 rw [if_pos he] at h ⊢
 by_cases hk : (Sp.pkt (bl s)).kind = kind
 ·by_cases ha : Sp.fits 2 sp = true
  ·by_cases hb : Sp.fits 2 dp = true
   ·rw [if_pos ⟨hk, ha, hb⟩] at h ⊢
    by_cases hl : (Sp.pkt (bl s)).ttl < 2
    ·rw [if_pos hl]
     exact pt_open_x s w _ rfl kind src dst sp dp _ _ _ _ _ _ _ _ _ _ _ _ _ _ _ HC _ _ _ _ H1 H2 _ (Or.inr ⟨he, Or.inr ⟨hk, Or.inr ⟨(pt_put2 _).trans ha, Or.inr ⟨(pt_put2 _).trans hb, hl, rfl⟩⟩⟩⟩)
    rw [if_neg hl] at h
    exact absurd rfl h
   rw [if_neg (fun g => hb g.2.2)]
   exact pt_open_x s w _ rfl kind src dst sp dp _ _ _ _ _ _ _ _ _ _ _ _ _ _ _ HC _ _ _ _ H1 H2 _ (Or.inr ⟨he, Or.inr ⟨hk, Or.inr ⟨(pt_put2 _).trans ha, Or.inl ⟨(pt_put2 _).trans (Bool.eq_false_iff.mpr hb), rfl⟩⟩⟩⟩)
  rw [if_neg (fun g => ha g.2.1)]
  exact pt_open_x s w _ rfl kind src dst sp dp _ _ _ _ _ _ _ _ _ _ _ _ _ _ _ HC _ _ _ _ H1 H2 _ (Or.inr ⟨he, Or.inr ⟨hk, Or.inl ⟨(pt_put2 _).trans (Bool.eq_false_iff.mpr ha), rfl⟩⟩⟩)
 rw [if_neg (fun g => hk g.1)]
 exact pt_open_x s w _ rfl kind src dst sp dp _ _ _ _ _ _ _ _ _ _ _ _ _ _ _ HC _ _ _ _ H1 H2 _ (Or.inr ⟨he, Or.inl ⟨hk, rfl⟩⟩)
theorem pt_open_yes {s : ByteArray} (hs : s.size ≤ 140737488355328) (kind src dst sp dp : Int) (w : World) (h : Sp.ready (bl s) kind sp dp = 0) (h20 : 0 ≤ (Sp.pkt (bl s)).total) (h2s : (Sp.pkt (bl s)).total ≤ s.size) :
  Calls Try.prog 20 #[.string s, .int .i64 kind, .agg #[.int .u32 src, .int .u32 dst, .int .i64 sp, .int .i64 dp]] w fun e w' => ∃ g, e = .returned (.tuple #[.agg #[.int .i64 (Sp.pkt (bl s)).kind, .int .i64 (Sp.pkt (bl s)).at_, .int .i64 (Sp.pkt (bl s)).total, .int .i64 (Sp.pkt (bl s)).proto, .int .u32 (Sp.pkt (bl s)).tsrc, .int .u32 (Sp.pkt (bl s)).tdst, .int .i64 (Sp.pkt (bl s)).sp, .int .i64 (Sp.pkt (bl s)).dp, .int .i64 (Sp.pkt (bl s)).flags, .int .i64 (Sp.pkt (bl s)).ttl, .int .u32 (Sp.pkt (bl s)).src, .int .u32 (Sp.pkt (bl s)).dst, .int .i64 (Sp.pkt (bl s)).quote, .int .i64 (Sp.pkt (bl s)).inner], .pointer (some ⟨g, 0, none⟩), .int .i64 0]) ∧ w.heap.size ≤ g ∧ w'.heap[g]? = some (.cells #[.string (s.extract 0 (Sp.pkt (bl s)).total.toNat)] 66 (0, 0)) ∧ Below w.heap.size w w' := by
 have HC := fun W => packet_Classify.calls s _ _ _ _ _ _ _ _ _ _ _ _ _ _ _ W (packet_Classify_eq hs)
 have H1 := fun W => octet_Put.calls 2 sp _ _ W rfl
 have H2 := fun W => octet_Put.calls 2 dp _ _ W rfl
 unfold Sp.ready at h
 by_cases he : (Sp.pkt (bl s)).e = 0
 ·rw [if_pos he] at h
  by_cases hk : (Sp.pkt (bl s)).kind = kind ∧ Sp.fits 2 sp = true ∧ Sp.fits 2 dp = true
  ·rw [if_pos hk] at h
   by_cases hl : (Sp.pkt (bl s)).ttl < 2
   ·rw [if_pos hl] at h; exact absurd h (by decide)
   exact pt_open_ok s w _ rfl kind src dst sp dp _ _ _ _ _ _ _ _ _ _ _ _ _ _ _ HC he _ _ _ _ H1 H2 hk.1 ((pt_put2 _).trans hk.2.1) ((pt_put2 _).trans hk.2.2) hl h20 h2s
  rw [if_neg hk] at h; exact absurd h (by decide)
 rw [if_neg he] at h; exact absurd h he
set_option maxRecDepth 100000 in
set_option maxHeartbeats 8000000 in
theorem pt_plain_bad (s : ByteArray) (w : World) (A : Nat) (hA : w.heap.size = A) (src dst sp dp : Int) (p0 p1 p2 p3 p4 p5 p6 p7 p8 p9 p10 p11 p12 p13 : Int) (er : Int) (her : er ≠ 0) (HO : ∀ W, Calls Try.prog 20 #[.string s, .int .i64 1, .agg #[.int .u32 src, .int .u32 dst, .int .i64 sp, .int .i64 dp]] W fun e w' => e = .returned (.tuple #[.agg #[.int .i64 p0, .int .i64 p1, .int .i64 p2, .int .i64 p3, .int .u32 p4, .int .u32 p5, .int .i64 p6, .int .i64 p7, .int .i64 p8, .int .i64 p9, .int .u32 p10, .int .u32 p11, .int .i64 p12, .int .i64 p13], .pointer none, .int .i64 er]) ∧ Below W.heap.size W w') :
  Calls Try.prog 12 #[.string s, .agg #[.int .u32 src, .int .u32 dst, .int .i64 sp, .int .i64 dp]] w fun e w' => e = .returned (.tuple #[.string ⟨#[]⟩, .int .i64 er]) ∧ Below A w w' := by
 have d0 : (er != 0) = true := by simpa using her
 have d1 : (er == 0) = false := by simpa using her
 clear her
 have hAe := Lib.hid hA
 clear hA
 have tt := blk4 (World.alloc_heap_new w (.cells #[.int .u32 src, .int .u32 dst, .int .i64 sp, .int .i64 dp] 27))
 obtain ⟨t0, t1, t2, t3⟩ := tt
 go_enter Try.func12, Try.ntmps12
 go_wp2_with (fail)
 clear t0 t1 t2 t3
 refine (HO _).mono ?_
 rintro e w1 ⟨rfl, hb⟩
 have hB := below_step (below_alloc (Below.refl _ _) _) hb
 rw [hAe.out] at hB
 have hAH : A ≤ w1.heap.size := by have := hB.size; have := hAe.out; omega
 have HQ := Lib.hid hB
 clear hb hB
 go_wp2_with (fail)
 go_ret2
 exact ⟨rfl, Below.alloc HQ.out hAH _⟩
set_option maxRecDepth 100000 in
set_option maxHeartbeats 8000000 in
theorem pt_plain_early (s : ByteArray) (w : World) (A : Nat) (hA : w.heap.size = A) (src dst sp dp : Int) (p0 p1 p2 p3 p4 p5 p6 p7 p8 p9 p10 p11 p12 p13 : Int) (b0 b1 b2 b3 : ByteArray) (HO : ∀ W, Calls Try.prog 20 #[.string s, .int .i64 1, .agg #[.int .u32 src, .int .u32 dst, .int .i64 sp, .int .i64 dp]] W fun e w' => ∃ g, e = .returned (.tuple #[.agg #[.int .i64 p0, .int .i64 p1, .int .i64 p2, .int .i64 p3, .int .u32 p4, .int .u32 p5, .int .i64 p6, .int .i64 p7, .int .i64 p8, .int .i64 p9, .int .u32 p10, .int .u32 p11, .int .i64 p12, .int .i64 p13], .pointer (some ⟨g, 0, none⟩), .int .i64 0]) ∧ W.heap.size ≤ g ∧ w'.heap[g]? = some (.cells #[.string b0] 66 (0, 0)) ∧ Below W.heap.size W w') (E1 : patch_buffer_outer.f b0 p1 src dst = some b1) (E2 : patch_buffer_put.f b1 p1 2 sp = some b2) (E3 : patch_buffer_put.f b2 (p1 + 2) 2 dp = some b3) (pl : Int) (pok : Bool) (HPl : ∀ W, Calls Try.prog 23 #[.int .i64 p3] W fun e w' => e = .returned (.tuple #[.int .i64 pl, .bool pok]) ∧ Below W.heap.size W w') (hw1 : wrap64 (p1 + 2) = p1 + 2) (n : Int) (hw2 : wrap64 (p1 + pl) = p1 + pl) (E4 : patch_buffer_get.f b3 (p1 + pl) 2 = some (n, b3)) (h17 : p3 = 17) (hn : n = 0) :
  Calls Try.prog 12 #[.string s, .agg #[.int .u32 src, .int .u32 dst, .int .i64 sp, .int .i64 dp]] w fun e w' => e = .returned (.tuple #[.string b3, .int .i64 0]) ∧ Below A w w' := by
 have e17 : (p3 == 17) = true := by rw [h17]; rfl
 have H17 := Lib.hid h17
 clear h17
 subst hn
 have hAe := Lib.hid hA
 clear hA
 have tt := blk4 (World.alloc_heap_new w (.cells #[.int .u32 src, .int .u32 dst, .int .i64 sp, .int .i64 dp] 27))
 obtain ⟨t0, t1, t2, t3⟩ := tt
 go_enter Try.func12, Try.ntmps12
 go_wp2_with (fail)
 clear t0 t1 t2 t3
 refine (HO _).mono ?_
 rintro e w1 ⟨g, rfl, hg, hG, hb⟩
 have hT : w1.heap[w.heap.size]? = some (.cells #[.int .u32 src, .int .u32 dst, .int .i64 sp, .int .i64 dp] 27 (0, 0)) := pt_step (World.alloc_heap_new w _) hb
 have hB := below_step (below_alloc (Below.refl _ _) _) hb
 have hAg : w.heap.size < g := by rw [World.size_alloc] at hg; omega
 clear hb hg
 rw [hAe.out] at hT hB hAg ⊢
 have hgH : g < w1.heap.size := pt_lt hG
 have hAH : A < w1.heap.size := by omega
 have hP0 := World.alloc_heap_new w1 (.cells (rr14 p0 p1 p2 p3 p4 p5 p6 p7 p8 p9 p10 p11 p12 p13) 42)
 have hT0 := pt_alloc (.cells (rr14 p0 p1 p2 p3 p4 p5 p6 p7 p8 p9 p10 p11 p12 p13) 42) hT
 have hI0 : IsS66 w (w1.alloc (.cells (rr14 p0 p1 p2 p3 p4 p5 p6 p7 p8 p9 p10 p11 p12 p13) 42)) g b0 := ⟨pt_alloc _ hG, by rw [hAe.out]; omega⟩
 have hB0 : Below A w (w1.alloc (.cells (rr14 p0 p1 p2 p3 p4 p5 p6 p7 p8 p9 p10 p11 p12 p13) 42)) := Below.alloc hB (by omega) _
 have t_ := blk4 hT
 have HQ := Lib.hid (And.intro hT0 (And.intro hP0 (And.intro hI0 hB0)))
 clear hT hG hB hT0 hP0 hI0 hB0
 go_wp2_with (fail)
 obtain ⟨hT0, hP0, hI0, hB0⟩ := HQ.out
 clear HQ t_
 generalize w1.heap.size = H at *
 generalize w1.alloc (.cells (rr14 p0 p1 p2 p3 p4 p5 p6 p7 p8 p9 p10 p11 p12 p13) 42) = v0 at hT0 hP0 hI0 hB0 ⊢
 clear w1
 refine (patch_buffer_outer.calls g _ p1 src dst _ w _ hI0 (by rw [hAe.out]; exact hB0) E1).mono ?_
 rintro e v1 ⟨rfl, hI1, hb, hk⟩
 rw [hAe.out] at hb
 have hT1 := pt_keep hT0 hk (by omega)
 have hP1 := pt_keep hP0 hk (by omega)
 have hB1 := hb
 clear hb hk hT0 hP0 hI0 hB0
 have q1 := (blk_cell hP1 1).trans (show _ = some (.int .i64 p1) from rfl)
 have t2 := (blk_cell hT1 2).trans (show _ = some (.int .i64 sp) from rfl)
 have HQ := Lib.hid (And.intro hT1 (And.intro hP1 (And.intro hI1 hB1)))
 clear hT1 hP1 hI1 hB1
 go_wp2_with (fail)
 obtain ⟨hT1, hP1, hI1, hB1⟩ := HQ.out
 clear HQ
 clear q1 t2
 refine (patch_buffer_put.calls g _ p1 2 sp _ w _ hI1 (by rw [hAe.out]; exact hB1) E2).mono ?_
 rintro e v2 ⟨rfl, hI2, hb, hk⟩
 rw [hAe.out] at hb
 have hT2 := pt_keep hT1 hk (by omega)
 have hP2 := pt_keep hP1 hk (by omega)
 have hB2 := hb
 clear hb hk hT1 hP1 hI1 hB1
 have q1 := (blk_cell hP2 1).trans (show _ = some (.int .i64 p1) from rfl)
 have t3 := (blk_cell hT2 3).trans (show _ = some (.int .i64 dp) from rfl)
 have HQ := Lib.hid (And.intro hT2 (And.intro hP2 (And.intro hI2 hB2)))
 clear hT2 hP2 hI2 hB2
 go_wp2_with (fail)
 obtain ⟨hT2, hP2, hI2, hB2⟩ := HQ.out
 clear HQ
 clear q1 t3
 refine (patch_buffer_put.calls g _ (p1 + 2) 2 dp _ w _ hI2 (by rw [hAe.out]; exact hB2) E3).mono ?_
 rintro e v3 ⟨rfl, hI3, hb, hk⟩
 rw [hAe.out] at hb
 have hT3 := pt_keep hT2 hk (by omega)
 have hP3 := pt_keep hP2 hk (by omega)
 have hB3 := hb
 clear hb hk hT2 hP2 hI2 hB2
 have q3 := (blk_cell hP3 3).trans (show _ = some (.int .i64 p3) from rfl)
 have HQ := Lib.hid (And.intro hT3 (And.intro hP3 (And.intro hI3 hB3)))
 clear hT3 hP3 hI3 hB3
 go_wp2_with (fail)
 obtain ⟨hT3, hP3, hI3, hB3⟩ := HQ.out
 clear HQ
 clear q3
 refine (HPl _).mono ?_
 rintro e v4 ⟨rfl, hb⟩
 have hT4 := pt_step hT3 hb
 have hP4 := pt_step hP3 hb
 have hI4 := hI3.below hb
 have hB4 := pt_below hB3 (by have := pt_lt hT3; omega) hb
 clear hb hT3 hP3 hI3 hB3
 have q3 := (blk_cell hP4 3).trans (show _ = some (.int .i64 p3) from rfl)
 have q1 := (blk_cell hP4 1).trans (show _ = some (.int .i64 p1) from rfl)
 have HQ := Lib.hid (And.intro hT4 (And.intro hP4 (And.intro hI4 hB4)))
 clear hT4 hP4 hI4 hB4
 go_wp2_with (fail)
 obtain ⟨hT4, hP4, hI4, hB4⟩ := HQ.out
 clear HQ
 clear q3 q1
 refine (patch_buffer_get.calls g _ (p1 + pl) 2 _ _ w _ hI4 (by rw [hAe.out]; exact hB4) E4).mono ?_
 rintro e v5 ⟨rfl, hI5, hb, hk⟩
 rw [hAe.out] at hb
 have hT5 := pt_keep hT4 hk (by omega)
 have hP5 := pt_keep hP4 hk (by omega)
 have hB5 := hb
 clear hb hk hT4 hP4 hI4 hB4
 have s0 := (blk_cell hI5.1 0).trans (show _ = some (.string b3) from rfl)
 have HQ := Lib.hid (And.intro hT5 (And.intro hP5 (And.intro hI5 hB5)))
 clear hT5 hP5 hI5 hB5
 go_wp2_with (fail)
 obtain ⟨hT5, hP5, hI5, hB5⟩ := HQ.out
 clear HQ
 go_ret2
 exact ⟨rfl, hB5⟩
set_option maxRecDepth 100000 in
set_option maxHeartbeats 8000000 in
theorem pt_plain_full (s : ByteArray) (w : World) (A : Nat) (hA : w.heap.size = A) (src dst sp dp : Int) (p0 p1 p2 p3 p4 p5 p6 p7 p8 p9 p10 p11 p12 p13 : Int) (b0 b1 b2 b3 : ByteArray) (HO : ∀ W, Calls Try.prog 20 #[.string s, .int .i64 1, .agg #[.int .u32 src, .int .u32 dst, .int .i64 sp, .int .i64 dp]] W fun e w' => ∃ g, e = .returned (.tuple #[.agg #[.int .i64 p0, .int .i64 p1, .int .i64 p2, .int .i64 p3, .int .u32 p4, .int .u32 p5, .int .i64 p6, .int .i64 p7, .int .i64 p8, .int .i64 p9, .int .u32 p10, .int .u32 p11, .int .i64 p12, .int .i64 p13], .pointer (some ⟨g, 0, none⟩), .int .i64 0]) ∧ W.heap.size ≤ g ∧ w'.heap[g]? = some (.cells #[.string b0] 66 (0, 0)) ∧ Below W.heap.size W w') (E1 : patch_buffer_outer.f b0 p1 src dst = some b1) (E2 : patch_buffer_put.f b1 p1 2 sp = some b2) (E3 : patch_buffer_put.f b2 (p1 + 2) 2 dp = some b3) (pl : Int) (pok : Bool) (HPl : ∀ W, Calls Try.prog 23 #[.int .i64 p3] W fun e w' => e = .returned (.tuple #[.int .i64 pl, .bool pok]) ∧ Below W.heap.size W w') (hw1 : wrap64 (p1 + 2) = p1 + 2) (fi : ByteArray) (fok : Bool) (h0 : 0 ≤ p1) (h1 : p1 ≤ b3.size) (hsz : b3.size ≤ 1000000) (hfz : fi.size ≤ 1000000) (HF : ∀ W, Calls Try.prog 25 #[.int .i64 p3, .int .u32 src, .int .u32 dst, .string (b3.extract p1.toNat b3.size)] W fun e w' => e = .returned (.tuple #[.string fi, .bool fok]) ∧ Below W.heap.size W w') (h17 : p3 ≠ 17) :
  Calls Try.prog 12 #[.string s, .agg #[.int .u32 src, .int .u32 dst, .int .i64 sp, .int .i64 dp]] w fun e w' => e = .returned (.tuple #[.string (b3.extract 0 p1.toNat ++ fi), .int .i64 0]) ∧ Below A w w' := by
 have e17 : (p3 == 17) = false := by simpa using h17
 have hAe := Lib.hid hA
 clear hA
 have tt := blk4 (World.alloc_heap_new w (.cells #[.int .u32 src, .int .u32 dst, .int .i64 sp, .int .i64 dp] 27))
 obtain ⟨t0, t1, t2, t3⟩ := tt
 go_enter Try.func12, Try.ntmps12
 go_wp2_with (fail)
 clear t0 t1 t2 t3
 refine (HO _).mono ?_
 rintro e w1 ⟨g, rfl, hg, hG, hb⟩
 have hT : w1.heap[w.heap.size]? = some (.cells #[.int .u32 src, .int .u32 dst, .int .i64 sp, .int .i64 dp] 27 (0, 0)) := pt_step (World.alloc_heap_new w _) hb
 have hB := below_step (below_alloc (Below.refl _ _) _) hb
 have hAg : w.heap.size < g := by rw [World.size_alloc] at hg; omega
 clear hb hg
 rw [hAe.out] at hT hB hAg ⊢
 have hgH : g < w1.heap.size := pt_lt hG
 have hAH : A < w1.heap.size := by omega
 have hP0 := World.alloc_heap_new w1 (.cells (rr14 p0 p1 p2 p3 p4 p5 p6 p7 p8 p9 p10 p11 p12 p13) 42)
 have hT0 := pt_alloc (.cells (rr14 p0 p1 p2 p3 p4 p5 p6 p7 p8 p9 p10 p11 p12 p13) 42) hT
 have hI0 : IsS66 w (w1.alloc (.cells (rr14 p0 p1 p2 p3 p4 p5 p6 p7 p8 p9 p10 p11 p12 p13) 42)) g b0 := ⟨pt_alloc _ hG, by rw [hAe.out]; omega⟩
 have hB0 : Below A w (w1.alloc (.cells (rr14 p0 p1 p2 p3 p4 p5 p6 p7 p8 p9 p10 p11 p12 p13) 42)) := Below.alloc hB (by omega) _
 have t_ := blk4 hT
 have HQ := Lib.hid (And.intro hT0 (And.intro hP0 (And.intro hI0 hB0)))
 clear hT hG hB hT0 hP0 hI0 hB0
 go_wp2_with (fail)
 obtain ⟨hT0, hP0, hI0, hB0⟩ := HQ.out
 clear HQ t_
 generalize w1.heap.size = H at *
 generalize w1.alloc (.cells (rr14 p0 p1 p2 p3 p4 p5 p6 p7 p8 p9 p10 p11 p12 p13) 42) = v0 at hT0 hP0 hI0 hB0 ⊢
 clear w1
 refine (patch_buffer_outer.calls g _ p1 src dst _ w _ hI0 (by rw [hAe.out]; exact hB0) E1).mono ?_
 rintro e v1 ⟨rfl, hI1, hb, hk⟩
 rw [hAe.out] at hb
 have hT1 := pt_keep hT0 hk (by omega)
 have hP1 := pt_keep hP0 hk (by omega)
 have hB1 := hb
 clear hb hk hT0 hP0 hI0 hB0
 have q1 := (blk_cell hP1 1).trans (show _ = some (.int .i64 p1) from rfl)
 have t2 := (blk_cell hT1 2).trans (show _ = some (.int .i64 sp) from rfl)
 have HQ := Lib.hid (And.intro hT1 (And.intro hP1 (And.intro hI1 hB1)))
 clear hT1 hP1 hI1 hB1
 go_wp2_with (fail)
 obtain ⟨hT1, hP1, hI1, hB1⟩ := HQ.out
 clear HQ
 clear q1 t2
 refine (patch_buffer_put.calls g _ p1 2 sp _ w _ hI1 (by rw [hAe.out]; exact hB1) E2).mono ?_
 rintro e v2 ⟨rfl, hI2, hb, hk⟩
 rw [hAe.out] at hb
 have hT2 := pt_keep hT1 hk (by omega)
 have hP2 := pt_keep hP1 hk (by omega)
 have hB2 := hb
 clear hb hk hT1 hP1 hI1 hB1
 have q1 := (blk_cell hP2 1).trans (show _ = some (.int .i64 p1) from rfl)
 have t3 := (blk_cell hT2 3).trans (show _ = some (.int .i64 dp) from rfl)
 have HQ := Lib.hid (And.intro hT2 (And.intro hP2 (And.intro hI2 hB2)))
 clear hT2 hP2 hI2 hB2
 go_wp2_with (fail)
 obtain ⟨hT2, hP2, hI2, hB2⟩ := HQ.out
 clear HQ
 clear q1 t3
 refine (patch_buffer_put.calls g _ (p1 + 2) 2 dp _ w _ hI2 (by rw [hAe.out]; exact hB2) E3).mono ?_
 rintro e v3 ⟨rfl, hI3, hb, hk⟩
 rw [hAe.out] at hb
 have hT3 := pt_keep hT2 hk (by omega)
 have hP3 := pt_keep hP2 hk (by omega)
 have hB3 := hb
 clear hb hk hT2 hP2 hI2 hB2
 have q3 := (blk_cell hP3 3).trans (show _ = some (.int .i64 p3) from rfl)
 have HQ := Lib.hid (And.intro hT3 (And.intro hP3 (And.intro hI3 hB3)))
 clear hT3 hP3 hI3 hB3
 go_wp2_with (fail)
 obtain ⟨hT3, hP3, hI3, hB3⟩ := HQ.out
 clear HQ
 clear q3
 refine (HPl _).mono ?_
 rintro e v4 ⟨rfl, hb⟩
 have hT4 := pt_step hT3 hb
 have hP4 := pt_step hP3 hb
 have hI4 := hI3.below hb
 have hB4 := pt_below hB3 (by have := pt_lt hT3; omega) hb
 clear hb hT3 hP3 hI3 hB3
 have q3 := (blk_cell hP4 3).trans (show _ = some (.int .i64 p3) from rfl)
 have q1 := (blk_cell hP4 1).trans (show _ = some (.int .i64 p1) from rfl)
 have HQ := Lib.hid (And.intro hT4 (And.intro hP4 (And.intro hI4 hB4)))
 clear hT4 hP4 hI4 hB4
 go_wp2_with (fail)
 obtain ⟨hT4, hP4, hI4, hB4⟩ := HQ.out
 clear HQ
 clear q3 q1
 have hRS : ∀ W : World, W.heap[A]? = some (.cells #[.int .u32 src, .int .u32 dst, .int .i64 sp, .int .i64 dp] 27 (0, 0)) → W.heap[H]? = some (.cells (rr14 p0 p1 p2 p3 p4 p5 p6 p7 p8 p9 p10 p11 p12 p13) 42 (0, 0)) → W.heap[g]? = some (.cells #[.string b3] 66 (0, 0)) → (W.cell? ⟨H, 3, none⟩ = some (.int .i64 p3) ∧ W.cell? ⟨A, 0, none⟩ = some (.int .u32 src) ∧ W.cell? ⟨A, 1, none⟩ = some (.int .u32 dst) ∧ W.cell? ⟨g, 0, none⟩ = some (.string b3) ∧ W.cell? ⟨H, 1, none⟩ = some (.int .i64 p1)) := fun W h1 h2 h3 => ⟨(blk_cell h2 3).trans rfl, (blk_cell h1 0).trans rfl, (blk_cell h1 1).trans rfl, (blk_cell h3 0).trans rfl, (blk_cell h2 1).trans rfl⟩
 have g0 : decide (0 ≤ p1) = true := decide_eq_true h0
 have g1 : decide (p1 ≤ (b3.size : Int)) = true := decide_eq_true h1
 have g2 : (0 ≤ p1) = True := eq_true h0
 have g3 : (p1 ≤ (b3.size : Int)) = True := eq_true h1
 have g4 : p1.toNat ≤ b3.size := by omega
 have g5 : 0 ≤ p1 := h0
 have g6 : p1 ≤ (b3.size : Int) := h1
 refine start_ (n := 20) (S := fun w' => w'.cell? ⟨H, 3, none⟩ = some (.int .i64 p3) ∧ w'.cell? ⟨A, 0, none⟩ = some (.int .u32 src) ∧ w'.cell? ⟨A, 1, none⟩ = some (.int .u32 dst) ∧ w'.cell? ⟨g, 0, none⟩ = some (.string b3) ∧ w'.cell? ⟨H, 1, none⟩ = some (.int .i64 p1)) (ds := []) (bm 20 0x0) (by kernel_rfl) rfl rfl (hRS _ (pt_drew hT4) (pt_drew hP4) (pt_drew hI4.1)) (fun hHeld => ?_)
 have hT := pt_drew hT4
 have hP := pt_drew hP4
 have hG := pt_drew hI4.1
 have hB := pt_below_drew hB4
 clear hT4 hP4 hI4 hB4
 generalize v4.drew = u at hT hP hG hB hHeld ⊢
 refine pk 0 69 (bm 20 0x1) ?_
 refine pk 1 70 (bm 20 0x3) ?_
 refine tk 2 71 (bm 20 0x7) hHeld ?_
 refine pk 3 72 (bm 20 0xf) ?_
 refine tk 4 73 (bm 20 0x1f) hHeld ?_
 refine pk 5 74 (bm 20 0x3f) ?_
 refine tk 6 75 (bm 20 0x7f) hHeld ?_
 refine pk 7 76 (bm 20 0xff) ?_
 refine pk 8 77 (bm 20 0x1ff) ?_
 refine pk 9 78 (bm 20 0x3ff) ?_
 refine tk 10 79 (bm 20 0x7ff) hHeld ?_
 refine pk 11 80 (bm 20 0xfff) ?_
 refine tk 12 81 (bm 20 0x1fff) hHeld ?_
 refine pk 13 82 (bm 20 0x3fff) ?_
 refine one_ (i := 14) (N := some 83) (bm 20 0x7fff) rfl rfl (by kernel_rfl) (by decide) (fun K hK => ?_)
 refine goes_ Try.func25 (by kernel_rfl) rfl #[.int .i64 p3, .int .u32 src, .int .u32 dst, .string (b3.extract p1.toNat b3.size)] (by rfl) rfl rfl (by (try simp only [List.map_toArray, List.map_cons, List.map_nil]); first | done | rfl) ?_
 refine (HF _).mono ?_
 rintro e u1 ⟨rfl, hb⟩
 refine ⟨_, rfl, ?_⟩
 have hT1 := pt_step hT hb
 have hP1 := pt_step hP hb
 have hG1 := pt_step hG hb
 have hB1 := pt_below hB (by have := pt_lt hT; omega) hb
 clear hb hT hP hG hB hHeld
 refine hK.out _ _ (hRS _ hT1 hP1 hG1) (fun hHeld => ?_)
 clear hK K
 refine nm 83 ?_
 refine pk 15 68 (bm 20 0xffff) ?_
 refine pk 16 84 (bm 20 0x1ffff) ?_
 refine pk 17 85 (bm 20 0x3ffff) ?_
 refine pk 18 11 (bm 20 0x7ffff) ?_
 refine pk 19 12 (bm 20 0xfffff) ?_
 refine done_ (by kernel_rfl) ?_
 clear hHeld
 go_wp2_with (fail)
 have y1 : (9223372036854775807 < (b3.extract 0 p1.toNat).size + fi.size) = False := eq_false (by rw [ByteArray.size_extract]; omega)
 have y2 : (9223372036854775807 < min p1.toNat b3.size + fi.size) = False := eq_false (by omega)
 have y3 : (9223372036854775807 < p1.toNat + fi.size) = False := eq_false (by omega)
 refine start_ (n := 11) (S := fun w' => w'.cell? ⟨g, 0, none⟩ = some (.string b3) ∧ w'.cell? ⟨H, 1, none⟩ = some (.int .i64 p1)) (ds := []) (bm 11 0x0) (by kernel_rfl) rfl rfl ⟨(blk_cell (pt_drew hG1) 0).trans rfl, (blk_cell (pt_drew hP1) 1).trans rfl⟩ (fun hHeld => ?_)
 have hB2 := pt_below_drew hB1
 clear hT1 hP1 hG1 hB1
 generalize u1.drew = u2 at hB2 hHeld ⊢
 refine pk 0 86 (bm 11 0x1) ?_
 refine pk 1 87 (bm 11 0x3) ?_
 refine pk 2 88 (bm 11 0x7) ?_
 refine tk 3 89 (bm 11 0xf) hHeld ?_
 refine pk 4 90 (bm 11 0x1f) ?_
 refine tk 5 91 (bm 11 0x3f) hHeld ?_
 refine pk 6 92 (bm 11 0x7f) ?_
 refine pk 7 93 (bm 11 0xff) ?_
 refine pk 8 94 (bm 11 0x1ff) ?_
 refine pk 9 4 (bm 11 0x3ff) ?_
 refine pk 10 5 (bm 11 0x7ff) ?_
 refine done_ (by kernel_rfl) ?_
 go_wp2_with (fail)
 go_ret2
 exact ⟨rfl, hB2⟩
set_option maxRecDepth 100000 in
set_option maxHeartbeats 8000000 in
theorem pt_plain_full17 (s : ByteArray) (w : World) (A : Nat) (hA : w.heap.size = A) (src dst sp dp : Int) (p0 p1 p2 p3 p4 p5 p6 p7 p8 p9 p10 p11 p12 p13 : Int) (b0 b1 b2 b3 : ByteArray) (HO : ∀ W, Calls Try.prog 20 #[.string s, .int .i64 1, .agg #[.int .u32 src, .int .u32 dst, .int .i64 sp, .int .i64 dp]] W fun e w' => ∃ g, e = .returned (.tuple #[.agg #[.int .i64 p0, .int .i64 p1, .int .i64 p2, .int .i64 p3, .int .u32 p4, .int .u32 p5, .int .i64 p6, .int .i64 p7, .int .i64 p8, .int .i64 p9, .int .u32 p10, .int .u32 p11, .int .i64 p12, .int .i64 p13], .pointer (some ⟨g, 0, none⟩), .int .i64 0]) ∧ W.heap.size ≤ g ∧ w'.heap[g]? = some (.cells #[.string b0] 66 (0, 0)) ∧ Below W.heap.size W w') (E1 : patch_buffer_outer.f b0 p1 src dst = some b1) (E2 : patch_buffer_put.f b1 p1 2 sp = some b2) (E3 : patch_buffer_put.f b2 (p1 + 2) 2 dp = some b3) (pl : Int) (pok : Bool) (HPl : ∀ W, Calls Try.prog 23 #[.int .i64 p3] W fun e w' => e = .returned (.tuple #[.int .i64 pl, .bool pok]) ∧ Below W.heap.size W w') (hw1 : wrap64 (p1 + 2) = p1 + 2) (n : Int) (hw2 : wrap64 (p1 + pl) = p1 + pl) (E4 : patch_buffer_get.f b3 (p1 + pl) 2 = some (n, b3)) (fi : ByteArray) (fok : Bool) (h0 : 0 ≤ p1) (h1 : p1 ≤ b3.size) (hsz : b3.size ≤ 1000000) (hfz : fi.size ≤ 1000000) (HF : ∀ W, Calls Try.prog 25 #[.int .i64 p3, .int .u32 src, .int .u32 dst, .string (b3.extract p1.toNat b3.size)] W fun e w' => e = .returned (.tuple #[.string fi, .bool fok]) ∧ Below W.heap.size W w') (h17 : p3 = 17) (hn : n ≠ 0) :
  Calls Try.prog 12 #[.string s, .agg #[.int .u32 src, .int .u32 dst, .int .i64 sp, .int .i64 dp]] w fun e w' => e = .returned (.tuple #[.string (b3.extract 0 p1.toNat ++ fi), .int .i64 0]) ∧ Below A w w' := by
 have e17 : (p3 == 17) = true := by rw [h17]; rfl
 have H17 := Lib.hid h17
 clear h17
 have en : (n == 0) = false := by simpa using hn
 clear hn
 have hAe := Lib.hid hA
 clear hA
 have tt := blk4 (World.alloc_heap_new w (.cells #[.int .u32 src, .int .u32 dst, .int .i64 sp, .int .i64 dp] 27))
 obtain ⟨t0, t1, t2, t3⟩ := tt
 go_enter Try.func12, Try.ntmps12
 go_wp2_with (fail)
 clear t0 t1 t2 t3
 refine (HO _).mono ?_
 rintro e w1 ⟨g, rfl, hg, hG, hb⟩
 have hT : w1.heap[w.heap.size]? = some (.cells #[.int .u32 src, .int .u32 dst, .int .i64 sp, .int .i64 dp] 27 (0, 0)) := pt_step (World.alloc_heap_new w _) hb
 have hB := below_step (below_alloc (Below.refl _ _) _) hb
 have hAg : w.heap.size < g := by rw [World.size_alloc] at hg; omega
 clear hb hg
 rw [hAe.out] at hT hB hAg ⊢
 have hgH : g < w1.heap.size := pt_lt hG
 have hAH : A < w1.heap.size := by omega
 have hP0 := World.alloc_heap_new w1 (.cells (rr14 p0 p1 p2 p3 p4 p5 p6 p7 p8 p9 p10 p11 p12 p13) 42)
 have hT0 := pt_alloc (.cells (rr14 p0 p1 p2 p3 p4 p5 p6 p7 p8 p9 p10 p11 p12 p13) 42) hT
 have hI0 : IsS66 w (w1.alloc (.cells (rr14 p0 p1 p2 p3 p4 p5 p6 p7 p8 p9 p10 p11 p12 p13) 42)) g b0 := ⟨pt_alloc _ hG, by rw [hAe.out]; omega⟩
 have hB0 : Below A w (w1.alloc (.cells (rr14 p0 p1 p2 p3 p4 p5 p6 p7 p8 p9 p10 p11 p12 p13) 42)) := Below.alloc hB (by omega) _
 have t_ := blk4 hT
 have HQ := Lib.hid (And.intro hT0 (And.intro hP0 (And.intro hI0 hB0)))
 clear hT hG hB hT0 hP0 hI0 hB0
 go_wp2_with (fail)
 obtain ⟨hT0, hP0, hI0, hB0⟩ := HQ.out
 clear HQ t_
 generalize w1.heap.size = H at *
 generalize w1.alloc (.cells (rr14 p0 p1 p2 p3 p4 p5 p6 p7 p8 p9 p10 p11 p12 p13) 42) = v0 at hT0 hP0 hI0 hB0 ⊢
 clear w1
 refine (patch_buffer_outer.calls g _ p1 src dst _ w _ hI0 (by rw [hAe.out]; exact hB0) E1).mono ?_
 rintro e v1 ⟨rfl, hI1, hb, hk⟩
 rw [hAe.out] at hb
 have hT1 := pt_keep hT0 hk (by omega)
 have hP1 := pt_keep hP0 hk (by omega)
 have hB1 := hb
 clear hb hk hT0 hP0 hI0 hB0
 have q1 := (blk_cell hP1 1).trans (show _ = some (.int .i64 p1) from rfl)
 have t2 := (blk_cell hT1 2).trans (show _ = some (.int .i64 sp) from rfl)
 have HQ := Lib.hid (And.intro hT1 (And.intro hP1 (And.intro hI1 hB1)))
 clear hT1 hP1 hI1 hB1
 go_wp2_with (fail)
 obtain ⟨hT1, hP1, hI1, hB1⟩ := HQ.out
 clear HQ
 clear q1 t2
 refine (patch_buffer_put.calls g _ p1 2 sp _ w _ hI1 (by rw [hAe.out]; exact hB1) E2).mono ?_
 rintro e v2 ⟨rfl, hI2, hb, hk⟩
 rw [hAe.out] at hb
 have hT2 := pt_keep hT1 hk (by omega)
 have hP2 := pt_keep hP1 hk (by omega)
 have hB2 := hb
 clear hb hk hT1 hP1 hI1 hB1
 have q1 := (blk_cell hP2 1).trans (show _ = some (.int .i64 p1) from rfl)
 have t3 := (blk_cell hT2 3).trans (show _ = some (.int .i64 dp) from rfl)
 have HQ := Lib.hid (And.intro hT2 (And.intro hP2 (And.intro hI2 hB2)))
 clear hT2 hP2 hI2 hB2
 go_wp2_with (fail)
 obtain ⟨hT2, hP2, hI2, hB2⟩ := HQ.out
 clear HQ
 clear q1 t3
 refine (patch_buffer_put.calls g _ (p1 + 2) 2 dp _ w _ hI2 (by rw [hAe.out]; exact hB2) E3).mono ?_
 rintro e v3 ⟨rfl, hI3, hb, hk⟩
 rw [hAe.out] at hb
 have hT3 := pt_keep hT2 hk (by omega)
 have hP3 := pt_keep hP2 hk (by omega)
 have hB3 := hb
 clear hb hk hT2 hP2 hI2 hB2
 have q3 := (blk_cell hP3 3).trans (show _ = some (.int .i64 p3) from rfl)
 have HQ := Lib.hid (And.intro hT3 (And.intro hP3 (And.intro hI3 hB3)))
 clear hT3 hP3 hI3 hB3
 go_wp2_with (fail)
 obtain ⟨hT3, hP3, hI3, hB3⟩ := HQ.out
 clear HQ
 clear q3
 refine (HPl _).mono ?_
 rintro e v4 ⟨rfl, hb⟩
 have hT4 := pt_step hT3 hb
 have hP4 := pt_step hP3 hb
 have hI4 := hI3.below hb
 have hB4 := pt_below hB3 (by have := pt_lt hT3; omega) hb
 clear hb hT3 hP3 hI3 hB3
 have q3 := (blk_cell hP4 3).trans (show _ = some (.int .i64 p3) from rfl)
 have q1 := (blk_cell hP4 1).trans (show _ = some (.int .i64 p1) from rfl)
 have HQ := Lib.hid (And.intro hT4 (And.intro hP4 (And.intro hI4 hB4)))
 clear hT4 hP4 hI4 hB4
 go_wp2_with (fail)
 obtain ⟨hT4, hP4, hI4, hB4⟩ := HQ.out
 clear HQ
 clear q3 q1
 refine (patch_buffer_get.calls g _ (p1 + pl) 2 _ _ w _ hI4 (by rw [hAe.out]; exact hB4) E4).mono ?_
 rintro e v5 ⟨rfl, hI5, hb, hk⟩
 rw [hAe.out] at hb
 have hT5 := pt_keep hT4 hk (by omega)
 have hP5 := pt_keep hP4 hk (by omega)
 have hB5 := hb
 clear hb hk hT4 hP4 hI4 hB4
 have HQ := Lib.hid (And.intro hT5 (And.intro hP5 (And.intro hI5 hB5)))
 clear hT5 hP5 hI5 hB5
 go_wp2_with (fail)
 obtain ⟨hT5, hP5, hI5, hB5⟩ := HQ.out
 clear HQ
 have hRS : ∀ W : World, W.heap[A]? = some (.cells #[.int .u32 src, .int .u32 dst, .int .i64 sp, .int .i64 dp] 27 (0, 0)) → W.heap[H]? = some (.cells (rr14 p0 p1 p2 p3 p4 p5 p6 p7 p8 p9 p10 p11 p12 p13) 42 (0, 0)) → W.heap[g]? = some (.cells #[.string b3] 66 (0, 0)) → (W.cell? ⟨H, 3, none⟩ = some (.int .i64 p3) ∧ W.cell? ⟨A, 0, none⟩ = some (.int .u32 src) ∧ W.cell? ⟨A, 1, none⟩ = some (.int .u32 dst) ∧ W.cell? ⟨g, 0, none⟩ = some (.string b3) ∧ W.cell? ⟨H, 1, none⟩ = some (.int .i64 p1)) := fun W h1 h2 h3 => ⟨(blk_cell h2 3).trans rfl, (blk_cell h1 0).trans rfl, (blk_cell h1 1).trans rfl, (blk_cell h3 0).trans rfl, (blk_cell h2 1).trans rfl⟩
 have g0 : decide (0 ≤ p1) = true := decide_eq_true h0
 have g1 : decide (p1 ≤ (b3.size : Int)) = true := decide_eq_true h1
 have g2 : (0 ≤ p1) = True := eq_true h0
 have g3 : (p1 ≤ (b3.size : Int)) = True := eq_true h1
 have g4 : p1.toNat ≤ b3.size := by omega
 have g5 : 0 ≤ p1 := h0
 have g6 : p1 ≤ (b3.size : Int) := h1
 refine start_ (n := 20) (S := fun w' => w'.cell? ⟨H, 3, none⟩ = some (.int .i64 p3) ∧ w'.cell? ⟨A, 0, none⟩ = some (.int .u32 src) ∧ w'.cell? ⟨A, 1, none⟩ = some (.int .u32 dst) ∧ w'.cell? ⟨g, 0, none⟩ = some (.string b3) ∧ w'.cell? ⟨H, 1, none⟩ = some (.int .i64 p1)) (ds := []) (bm 20 0x0) (by kernel_rfl) rfl rfl (hRS _ (pt_drew hT5) (pt_drew hP5) (pt_drew hI5.1)) (fun hHeld => ?_)
 have hT := pt_drew hT5
 have hP := pt_drew hP5
 have hG := pt_drew hI5.1
 have hB := pt_below_drew hB5
 clear hT5 hP5 hI5 hB5
 generalize v5.drew = u at hT hP hG hB hHeld ⊢
 refine pk 0 69 (bm 20 0x1) ?_
 refine pk 1 70 (bm 20 0x3) ?_
 refine tk 2 71 (bm 20 0x7) hHeld ?_
 refine pk 3 72 (bm 20 0xf) ?_
 refine tk 4 73 (bm 20 0x1f) hHeld ?_
 refine pk 5 74 (bm 20 0x3f) ?_
 refine tk 6 75 (bm 20 0x7f) hHeld ?_
 refine pk 7 76 (bm 20 0xff) ?_
 refine pk 8 77 (bm 20 0x1ff) ?_
 refine pk 9 78 (bm 20 0x3ff) ?_
 refine tk 10 79 (bm 20 0x7ff) hHeld ?_
 refine pk 11 80 (bm 20 0xfff) ?_
 refine tk 12 81 (bm 20 0x1fff) hHeld ?_
 refine pk 13 82 (bm 20 0x3fff) ?_
 refine one_ (i := 14) (N := some 83) (bm 20 0x7fff) rfl rfl (by kernel_rfl) (by decide) (fun K hK => ?_)
 refine goes_ Try.func25 (by kernel_rfl) rfl #[.int .i64 p3, .int .u32 src, .int .u32 dst, .string (b3.extract p1.toNat b3.size)] (by rfl) rfl rfl (by (try simp only [List.map_toArray, List.map_cons, List.map_nil]); first | done | rfl) ?_
 refine (HF _).mono ?_
 rintro e u1 ⟨rfl, hb⟩
 refine ⟨_, rfl, ?_⟩
 have hT1 := pt_step hT hb
 have hP1 := pt_step hP hb
 have hG1 := pt_step hG hb
 have hB1 := pt_below hB (by have := pt_lt hT; omega) hb
 clear hb hT hP hG hB hHeld
 refine hK.out _ _ (hRS _ hT1 hP1 hG1) (fun hHeld => ?_)
 clear hK K
 refine nm 83 ?_
 refine pk 15 68 (bm 20 0xffff) ?_
 refine pk 16 84 (bm 20 0x1ffff) ?_
 refine pk 17 85 (bm 20 0x3ffff) ?_
 refine pk 18 11 (bm 20 0x7ffff) ?_
 refine pk 19 12 (bm 20 0xfffff) ?_
 refine done_ (by kernel_rfl) ?_
 clear hHeld
 go_wp2_with (fail)
 have y1 : (9223372036854775807 < (b3.extract 0 p1.toNat).size + fi.size) = False := eq_false (by rw [ByteArray.size_extract]; omega)
 have y2 : (9223372036854775807 < min p1.toNat b3.size + fi.size) = False := eq_false (by omega)
 have y3 : (9223372036854775807 < p1.toNat + fi.size) = False := eq_false (by omega)
 refine start_ (n := 11) (S := fun w' => w'.cell? ⟨g, 0, none⟩ = some (.string b3) ∧ w'.cell? ⟨H, 1, none⟩ = some (.int .i64 p1)) (ds := []) (bm 11 0x0) (by kernel_rfl) rfl rfl ⟨(blk_cell (pt_drew hG1) 0).trans rfl, (blk_cell (pt_drew hP1) 1).trans rfl⟩ (fun hHeld => ?_)
 have hB2 := pt_below_drew hB1
 clear hT1 hP1 hG1 hB1
 generalize u1.drew = u2 at hB2 hHeld ⊢
 refine pk 0 86 (bm 11 0x1) ?_
 refine pk 1 87 (bm 11 0x3) ?_
 refine pk 2 88 (bm 11 0x7) ?_
 refine tk 3 89 (bm 11 0xf) hHeld ?_
 refine pk 4 90 (bm 11 0x1f) ?_
 refine tk 5 91 (bm 11 0x3f) hHeld ?_
 refine pk 6 92 (bm 11 0x7f) ?_
 refine pk 7 93 (bm 11 0xff) ?_
 refine pk 8 94 (bm 11 0x1ff) ?_
 refine pk 9 4 (bm 11 0x3ff) ?_
 refine pk 10 5 (bm 11 0x7ff) ?_
 refine done_ (by kernel_rfl) ?_
 go_wp2_with (fail)
 go_ret2
 exact ⟨rfl, hB2⟩
theorem pt_one {s : List UInt8} (he : (pkt s).e = 0) (hk : (pkt s).kind = 1) : 20 ≤ (pkt s).at_ ∧ (pkt s).at_ ≤ (pkt s).total ∧ (pkt s).total ≤ s.length ∧ (pkt s).total ≤ 1500 ∧ ((pkt s).proto = 6 ∨ (pkt s).proto = 17) := by
 unfold pkt pktOf at he hk ⊢
 by_cases h : (ip4Parse s).e = 0
 rotate_left
 ·rw [if_neg h] at hk; exact absurd hk (by simp [pktNone])
 rw [if_pos h] at he hk ⊢
 have hz : (ip4Sizes s).2.2 = 0 := Classical.byContradiction fun hn => by
  unfold ip4Parse at h
  rw [if_neg hn] at h
  exact hn h
 obtain ⟨_, _, a1, _, a2, a3, a4, _⟩ := ip4Sizes_ok hz
 by_cases hf : (ip4Parse s).flags % 2 = 0 ∧ (ip4Parse s).frag = 0
 ·rw [if_pos hf] at he hk ⊢
  by_cases h1 : (ip4Parse s).proto = 1
  ·rw [if_pos h1] at hk
   exfalso
   unfold pktAbout pktQuoted at hk
   revert hk
   (repeat' split) <;> (intro hk; first | exact absurd hk (by decide) | (simp [pktNone] at hk))
  rw [if_neg h1] at he hk ⊢
  by_cases hp : (ip4Parse s).proto = 6 ∨ (ip4Parse s).proto = 17
  ·rw [if_pos hp] at he hk ⊢
   unfold pktPlain at he hk ⊢
   by_cases hq : plainErr (ip4Parse s) = 0
   ·rw [if_pos hq]; exact ⟨a1, a2, a3, a4, hp⟩
   rw [if_neg hq] at hk; exact absurd hk (by simp [pktNone])
  rw [if_neg hp] at hk; exact absurd hk (by simp [pktNone])
 rw [if_neg hf] at hk; exact absurd hk (by simp [pktNone])
theorem pt_pfill (p a b : Int) (s : List UInt8) : (Sp.pfill p a b s).1.length ≤ s.length := by
 unfold Sp.pfill
 split
 ·have h := pt_len s (Sp.place p).1 2 (Sp.pcheck p a b s).1
  unfold Sp.bput at h
  by_cases g : (Sp.set s (Sp.place p).1 2 (Sp.pcheck p a b s).1).2 = true
  ·rw [if_pos g] at h; omega
  have : (Sp.set s (Sp.place p).1 2 (Sp.pcheck p a b s).1).1 = [] := by
   revert g; unfold Sp.set
   (repeat' split) <;> simp
  rw [this]; simp
 simp
theorem pt_ready {s : List UInt8} {k sp dp : Int} (h : Sp.ready s k sp dp = 0) : (Sp.pkt s).e = 0 ∧ (Sp.pkt s).kind = k := by
 unfold Sp.ready at h
 by_cases he : (Sp.pkt s).e = 0
 ·rw [if_pos he] at h
  by_cases hk : (Sp.pkt s).kind = k ∧ Sp.fits 2 sp = true ∧ Sp.fits 2 dp = true
  ·exact ⟨he, hk.1⟩
  rw [if_neg hk] at h; exact absurd h (by decide)
 rw [if_neg he] at h; exact absurd h he
theorem pt_outer_len (s : List UInt8) (n x y : Int) : (Sp.outer s n x y).length = s.length := by
 unfold Sp.outer Sp.recheck Sp.turnEnds; simp only [pt_len]
def patch_Plain.f (a0 : ByteArray) (a1 a2 a3 a4 : Int) : Option (ByteArray × Int) := if a0.size ≤ 140737488355328 ∧ (0 ≤ a1 ∧ a1 ≤ 4294967295) ∧ (0 ≤ a2 ∧ a2 ≤ 4294967295) then some (lb (Sp.patchPlain (bl a0) a1 a2 a3 a4).1, (Sp.patchPlain (bl a0) a1 a2 a3 a4).2) else none
theorem patch_Plain.calls (a0 : ByteArray) (a1 a2 a3 a4 : Int) (r1 : ByteArray) (r2 : Int) (w : World) (h : patch_Plain.f a0 a1 a2 a3 a4 = some (r1, r2)) :
  Calls Try.prog 12 #[.string a0, .agg #[.int .u32 a1, .int .u32 a2, .int .i64 a3, .int .i64 a4]] w fun e w' => e = .returned (.tuple #[.string r1, .int .i64 r2]) ∧ Below w.heap.size w w' := by
 unfold patch_Plain.f at h
 by_cases hd : a0.size ≤ 140737488355328 ∧ (0 ≤ a1 ∧ a1 ≤ 4294967295) ∧ (0 ≤ a2 ∧ a2 ≤ 4294967295)
 rotate_left
 ·rw [if_neg hd] at h; cases h
 rw [if_pos hd] at h
 obtain ⟨hs, hx, hy⟩ := hd
 simp only [Option.some.injEq, Prod.mk.injEq] at h
 obtain ⟨rfl, rfl⟩ := h
 unfold Sp.patchPlain
 by_cases hr : Sp.ready (bl a0) 1 a3 a4 = 0
 rotate_left
 ·rw [if_neg hr]
  exact pt_plain_bad a0 w _ rfl a1 a2 a3 a4 _ _ _ _ _ _ _ _ _ _ _ _ _ _ _ hr (fun W => pt_open_no hs 1 a1 a2 a3 a4 W hr)
 rw [if_pos hr]
 obtain ⟨he, hk⟩ := pt_ready hr
 obtain ⟨n20, nt, tl, t15, hp⟩ := pt_one he hk
 rw [bl_length] at tl
 have HO := fun W => pt_open_yes hs 1 a1 a2 a3 a4 W hr (by omega) tl
 obtain ⟨b0, hb0⟩ : ∃ b0, a0.extract 0 (Sp.pkt (bl a0)).total.toNat = b0 := ⟨_, rfl⟩
 have l0 : bl b0 = (bl a0).take (Sp.pkt (bl a0)).total.toNat := by rw [← hb0, bl_extract, List.drop_zero]
 rw [hb0] at HO
 have z0 : (b0.size : Int) = (Sp.pkt (bl a0)).total := by rw [← bl_length, l0, List.length_take, bl_length]; omega
 unfold Sp.turnPlain
 rw [← l0]
 generalize (Sp.pkt (bl a0)).total = tt at *
 generalize (Sp.pkt (bl a0)).at_ = n at *
 generalize (Sp.pkt (bl a0)).proto = pr at *
 have E1 := patch_buffer_outer_eq (s := b0) (n := n) (x := a1) (y := a2) (by omega) (by omega) (by omega) hx hy
 obtain ⟨b1, hb1⟩ : ∃ b1, Sp.outer (bl b0) n a1 a2 = b1 := ⟨_, rfl⟩
 have z1 : b1.length = b0.size := by rw [← hb1, pt_outer_len, bl_length]
 rw [hb1] at E1 ⊢
 have E2 := patch_buffer_put_eq (s := lb b1) n 2 a3 (by rw [lb_size]; omega)
 rw [bl_lb] at E2
 obtain ⟨b2, hb2⟩ : ∃ b2, Sp.bput b1 n 2 a3 = b2 := ⟨_, rfl⟩
 have z2 : b2.length = b0.size := by rw [← hb2, pt_len]; exact z1
 rw [hb2] at E2 ⊢
 have E3 := patch_buffer_put_eq (s := lb b2) (n + 2) 2 a4 (by rw [lb_size]; omega)
 rw [bl_lb] at E3
 obtain ⟨b3, hb3⟩ : ∃ b3, Sp.bput b2 (n + 2) 2 a4 = b3 := ⟨_, rfl⟩
 have z3 : b3.length = b0.size := by rw [← hb3, pt_len]; exact z2
 rw [hb3] at E3 ⊢
 have HPl := fun W => pseudo_Place.calls pr _ _ W (pseudo_Place_eq (by omega) (by omega))
 have hpl : 0 ≤ (Sp.place pr).1 ∧ (Sp.place pr).1 ≤ 16 := by rcases hp with rfl | rfl <;> decide
 have hw1 : wrap64 (n + 2) = n + 2 := by unfold wrap64; omega
 have hw2 : wrap64 (n + (Sp.place pr).1) = n + (Sp.place pr).1 := by unfold wrap64; omega
 have E4 := patch_buffer_get_eq (s := lb b3) (n + (Sp.place pr).1) 2 (by rw [lb_size]; omega)
 rw [bl_lb] at E4
 have lx : bl ((lb b3).extract n.toNat (lb b3).size) = b3.drop n.toNat := by rw [bl_extract, bl_lb, lb_size, List.take_length]
 have HF := fun W => pseudo_Fill.calls pr a1 a2 ((lb b3).extract n.toNat (lb b3).size) _ _ W (pseudo_Fill_eq (by omega) hx hy (by rw [ByteArray.size_extract, lb_size]; omega))
 rw [lx] at HF
 have hfl := pt_pfill pr a1 a2 (b3.drop n.toNat)
 rw [List.length_drop] at hfl
 have hres : lb (b3.take n.toNat ++ (Sp.pfill pr a1 a2 (b3.drop n.toNat)).1) = (lb b3).extract 0 n.toNat ++ lb (Sp.pfill pr a1 a2 (b3.drop n.toNat)).1 := bl_inj (by rw [bl_lb, bl_append, bl_extract, bl_lb, bl_lb, List.drop_zero])
 unfold Sp.fillPlain
 by_cases h17 : pr = 17
 ·by_cases hn : (Sp.get b3 (n + (Sp.place pr).1) 2).1 = 0
  ·rw [if_pos ⟨h17, hn⟩]
   exact pt_plain_early a0 w _ rfl a1 a2 a3 a4 _ _ _ _ _ _ _ _ _ _ _ _ _ _ b0 _ _ _ HO E1 E2 E3 _ _ HPl hw1 _ hw2 E4 h17 hn
  rw [if_neg (fun g => hn g.2), hres]
  exact pt_plain_full17 a0 w _ rfl a1 a2 a3 a4 _ _ _ _ _ _ _ _ _ _ _ _ _ _ b0 _ _ _ HO E1 E2 E3 _ _ HPl hw1 _ hw2 E4 _ _ (by omega) (by rw [lb_size]; omega) (by rw [lb_size]; omega) (by rw [lb_size]; omega) HF h17 hn
 rw [if_neg (fun g => h17 g.1), hres]
 exact pt_plain_full a0 w _ rfl a1 a2 a3 a4 _ _ _ _ _ _ _ _ _ _ _ _ _ _ b0 _ _ _ HO E1 E2 E3 _ _ HPl hw1 _ _ (by omega) (by rw [lb_size]; omega) (by rw [lb_size]; omega) (by rw [lb_size]; omega) HF h17
theorem patch_Plain_eq {a0 : ByteArray} {a1 a2 a3 a4 : Int} (h0 : a0.size ≤ 140737488355328) (h1 : 0 ≤ a1 ∧ a1 ≤ 4294967295) (h2 : 0 ≤ a2 ∧ a2 ≤ 4294967295) : patch_Plain.f a0 a1 a2 a3 a4 = some (lb (Sp.patchPlain (bl a0) a1 a2 a3 a4).1, (Sp.patchPlain (bl a0) a1 a2 a3 a4).2) := by unfold patch_Plain.f; exact if_pos ⟨h0, h1, h2⟩
end Go.Proofs.Ytfnjohklmpiboaa.Pr
