-- trimmed by trims.py
-- Written by a program of the session (wip/tools) out of the translation, over the kit's print; with pieces of the session's own.
import Derived.Test.YtfnjohklmpiboaaGreatPr0
import Derived.Test.YtfnjohklmpiboaaGreatPr10
import Derived.Test.YtfnjohklmpiboaaGreatPr12
import Derived.Test.YtfnjohklmpiboaaGreatPr13
import Derived.Test.YtfnjohklmpiboaaGreatPr17
namespace Go.Proofs.YtfnjohklmpiboaaGreat.Pr
open Go.RowKit Go.Proofs.YtfnjohklmpiboaaGreatW.PrintWords Go.Proofs.YtfnjohklmpiboaaGreatW.PrintLast Go.Proofs.YtfnjohklmpiboaaGreatW.PrintMore
attribute [local go_sem] max2_int min2_int max_two min_two max_three min_three max_four min_four   -- for this text's walks alone
set_option linter.unusedVariables false
set_option linter.unusedSimpArgs false
open Go.Proofs.YtfnjohklmpiboaaGreat.Sp
/-- A state of type 63 at block g of W; what its slices lead to came in by w0. -/
def IsS63 (w0 W : World) (g : Nat) (f0 : ByteArray) : Prop := W.heap[g]? = some (.cells #[.string f0] 63 (0, 0)) ∧ w0.heap.size ≤ g
theorem IsS63.grown {w0 W : World} {g : Nat} {f0 : ByteArray} {W1 : World} {row : Option Nat} (h : IsS63 w0 W g f0) (hw : W.grownBy W1 row) (hne : some g ≠ row) : IsS63 w0 W1 g f0 := by
 obtain ⟨hb, hg⟩ := h
 exact ⟨blk_grown hb hw hne, hg⟩
theorem IsS63.kept {w0 W : World} {g : Nat} {f0 : ByteArray} {W1 : World} {S : Nat → Prop} (h : IsS63 w0 W g f0) (hk : Kept W W1 S) (hne : ¬ S g) : IsS63 w0 W1 g f0 := by
 obtain ⟨hb, hg⟩ := h
 exact ⟨blk_kept hb hk hne, hg⟩
theorem IsS63.below {w0 W : World} {g : Nat} {f0 : ByteArray} {W1 : World} (h : IsS63 w0 W g f0) (hw : Below W.heap.size W W1) : IsS63 w0 W1 g f0 := h.grown (grown_of_below hw none) (by simp)
theorem IsS63.alloc {w0 W : World} {g : Nat} {f0 : ByteArray} (h : IsS63 w0 W g f0) (o : Obj) : IsS63 w0 (W.alloc o) g f0 := h.below (below_alloc (Below.refl _ _) o)
theorem IsS63.drewN {w0 W : World} {g : Nat} {f0 : ByteArray} (h : IsS63 w0 W g f0) (m : Nat) : IsS63 w0 (W.drewN m) g f0 := h
theorem IsS63.drew {w0 W : World} {g : Nat} {f0 : ByteArray} (h : IsS63 w0 W g f0) : IsS63 w0 W.drew g f0 := h
theorem IsS63.at_ {w0 W : World} {g : Nat} {f0 : ByteArray} {w' : World} {m : Nat} (hq : W.drewN m = w') (h : IsS63 w0 W g f0) : IsS63 w0 w' g f0 := by subst hq; exact IsS63.drewN h m
theorem IsS63.apart {w0 W : World} {g : Nat} {f0 : ByteArray} {α : Type} {d : Kd α} {e : Nat} {base : Nat} {ok : Nat → Prop} {v : Value} {xs : List α} (h : IsS63 w0 W g f0) (ho : d.R e W base ok v xs) (ht : ∀ q, q ∈ e :: d.E → q ≠ 63) : d.R e W base (fun k => ok k ∧ k ≠ g) v xs := by
 obtain ⟨hb, hg⟩ := h
 exact Kd.R_types ho hb ht
theorem IsS63.own_ne {w0 W : World} {g : Nat} {f0 : ByteArray} {α : Type} {d : Kd α} {e : Nat} {base : Nat} {ok : Nat → Prop} {v : Value} {xs : List α} (h : IsS63 w0 W g f0) (ho : d.R e W base ok v xs) (ht : e ≠ 63) : some g ≠ v.ownBlock := by
 obtain ⟨hb, hg⟩ := h
 exact Kd.R_ne ho hb ht
theorem IsS63.lt {w0 W : World} {g : Nat} {f0 : ByteArray} (h : IsS63 w0 W g f0) : g < W.heap.size := by
 obtain ⟨hb, hg⟩ := h
 exact blk_lt hb
theorem IsS63.ge {w0 W : World} {g : Nat} {f0 : ByteArray} (h : IsS63 w0 W g f0) : w0.heap.size ≤ g := by
 obtain ⟨hb, hg⟩ := h
 exact hg
theorem cellS63_0 {W : World} {g : Nat} {f0 : ByteArray} (h : W.heap[g]? = some (.cells #[.string f0] 63 (0, 0))) : W.cell? ⟨g, 0, none⟩ = some (.string f0) := (blk_cell h 0).trans rfl
theorem IsS63.set_0 {w0 W : World} {g : Nat} {f0 : ByteArray} (h : IsS63 w0 W g f0) (x : ByteArray) : IsS63 w0 (W.setCell ⟨g, 0, none⟩ (.string x)) g x := by
 obtain ⟨hb, hg⟩ := h
 exact ⟨by simpa using blk_set hb 0 (.string x), hg⟩
/-! ### patch_buffer_put: function 18 -/
def patch_buffer_put.f (s0_0 : ByteArray) (a1 : Int) (a2 : Int) (a3 : Int) : Option (ByteArray) := (octet_Set.f s0_0 a1 a2 a3).bind fun bt225 => (if bt225.2 = true then (some bt225.1) else (some s0_0))
set_option maxHeartbeats 8000000 in
set_option maxRecDepth 100000 in
theorem patch_buffer_put.calls (g : Nat) (s0_0 : ByteArray) (a1 : Int) (a2 : Int) (a3 : Int) (r : ByteArray) (w0 w : World) (hI : IsS63 w0 w g s0_0) (hB : Below w0.heap.size w0 w) (h : patch_buffer_put.f s0_0 a1 a2 a3 = some r) :
  Calls Tryz.prog 18 #[.pointer (some ⟨g, 0, none⟩), .int .i64 a1, .int .i64 a2, .int .i64 a3] w fun e w' => e = .returned (.tuple #[]) ∧ IsS63 w0 w' g r ∧ Below w0.heap.size w0 w' ∧ KeepBut w w' g none := by
 have HI0 := AA hI
 have HK := AA (KeepBut.refl w g none)
 have HL := AA hB.size
 clear hI
 have HW0 := AA hB.size
 have HB := AA hB
 clear hB
 have H : ((octet_Set.f s0_0 a1 a2 a3).bind fun bt225 => (if bt225.2 = true then (some bt225.1) else (some s0_0))) = some r := h
 clear h
 replace H := OB H
 obtain ⟨⟨t225, t226⟩, A5, H⟩ := H
 (try set_option simprocs false in dsimp only at H)
 by_cases c6 : t226 = true
 ·subst c6
  first | rw [if_pos rfl] at H | rw [if_pos trivial] at H
  obtain rfl := Option.some.inj H
  obtain ⟨HGz7, hgz7⟩ := HI0.out
  have hcz7_0 := cellS63_0 HGz7
  have hfz7_0 := blk_frozen HGz7 0
  clear HGz7 hgz7
  go_enter Tryz.func18, Tryz.ntmps18
  go_wp2_with (first | ((with_reducible refine gkx 40 rfl ?_); refine gL 18 Tryz.func40 rfl (octet_Set.calls s0_0 a1 a2 a3 t225 true _ A5.out) ?_; rintro w8 hb; (try clear A5); replace HK := AA (KeepBut.trans (by repeat (first | (with_reducible first | exact HK.out | apply KeepBut.set_ | apply keep_drewN | apply keep_drew | apply keep_alloc) | exact HK.out)) (KeepBut.of_below hb g none) (.inl rfl)); replace HB := AA (below_step (by repeat (first | (with_reducible first | exact HB.out | apply below_alloc | apply pw_below_drewN | apply below_drew1 | refine below_set ?_ (IsS63.ge HI0.out)) | exact HB.out)) hb); replace HI0 := AA (IsS63.below (by repeat (first | (with_reducible first | exact HI0.out | apply IsS63.alloc | apply IsS63.drewN | apply IsS63.drew | apply IsS63.set_0) | exact HI0.out)) hb); (try clear hb); obtain ⟨HGz9, hgz9⟩ := HI0.out; have hcz9_0 := cellS63_0 HGz9; have hfz9_0 := blk_frozen HGz9 0; clear HGz9 hgz9))
  first | go_end0 | ((try simp only [Exit.inBlock, Exit.then]); refine bodyPost_ret (results_none rfl _ _ _) rfl ?_)
  exact ⟨RT, by repeat (first | (with_reducible first | exact HI0.out | apply IsS63.alloc | apply IsS63.drewN | apply IsS63.drew | apply IsS63.set_0) | exact HI0.out), by repeat (first | (with_reducible first | exact HB.out | apply below_alloc | apply pw_below_drewN | apply below_drew1 | refine below_set ?_ (IsS63.ge HI0.out)) | exact HB.out), by repeat (first | (with_reducible first | exact HK.out | apply KeepBut.set_ | apply keep_drewN | apply keep_drew | apply keep_alloc) | exact HK.out)⟩
 replace c6 := Bool.eq_false_iff.mpr c6
 subst c6
 replace H := IFN H
 obtain rfl := Option.some.inj H
 obtain ⟨HGz10, hgz10⟩ := HI0.out
 have hcz10_0 := cellS63_0 HGz10
 have hfz10_0 := blk_frozen HGz10 0
 clear HGz10 hgz10
 go_enter Tryz.func18, Tryz.ntmps18
 go_wp2_with (first | ((with_reducible refine gkx 40 rfl ?_); refine gL 18 Tryz.func40 rfl (octet_Set.calls s0_0 a1 a2 a3 t225 false _ A5.out) ?_; rintro w11 hb; (try clear A5); replace HK := AA (KeepBut.trans (by repeat (first | (with_reducible first | exact HK.out | apply KeepBut.set_ | apply keep_drewN | apply keep_drew | apply keep_alloc) | exact HK.out)) (KeepBut.of_below hb g none) (.inl rfl)); replace HB := AA (below_step (by repeat (first | (with_reducible first | exact HB.out | apply below_alloc | apply pw_below_drewN | apply below_drew1 | refine below_set ?_ (IsS63.ge HI0.out)) | exact HB.out)) hb); replace HI0 := AA (IsS63.below (by repeat (first | (with_reducible first | exact HI0.out | apply IsS63.alloc | apply IsS63.drewN | apply IsS63.drew | apply IsS63.set_0) | exact HI0.out)) hb); (try clear hb)))
 first | go_end0 | ((try simp only [Exit.inBlock, Exit.then]); refine bodyPost_ret (results_none rfl _ _ _) rfl ?_)
 exact ⟨RT, by repeat (first | (with_reducible first | exact HI0.out | apply IsS63.alloc | apply IsS63.drewN | apply IsS63.drew | apply IsS63.set_0) | exact HI0.out), by repeat (first | (with_reducible first | exact HB.out | apply below_alloc | apply pw_below_drewN | apply below_drew1 | refine below_set ?_ (IsS63.ge HI0.out)) | exact HB.out), by repeat (first | (with_reducible first | exact HK.out | apply KeepBut.set_ | apply keep_drewN | apply keep_drew | apply keep_alloc) | exact HK.out)⟩

theorem pt_len (s : List UInt8) (a b n : Int) : (Sp.bput s a b n).length = s.length := by
 unfold Sp.bput
 split
 case isTrue h => exact Sp.set_length s a b n h
 case isFalse => rfl
theorem patch_buffer_put_eq {s : ByteArray} (a b n : Int) (h : s.size ≤ 281474976710656) : patch_buffer_put.f s a b n = some (lb (Sp.bput (bl s) a b n)) := by
 unfold patch_buffer_put.f
 rw [octet_Set_eq _ _ _ _ h, Option.bind_some]
 simp only
 unfold Sp.bput
 by_cases hs : (Sp.set (bl s) a b n).2 = true
 ·rw [if_pos hs, if_pos hs]
 rw [if_neg hs, if_neg hs, lb_bl]
/-! ### patch_buffer_get: function 19 -/
def patch_buffer_get.f (s0_0 : ByteArray) (a1 : Int) (a2 : Int) : Option (Int × ByteArray) := (octet_Get.f s0_0 a1 a2).bind fun bt227 => (some (bt227.1, s0_0))
set_option maxHeartbeats 8000000 in
set_option maxRecDepth 100000 in
theorem patch_buffer_get.calls (g : Nat) (s0_0 : ByteArray) (a1 : Int) (a2 : Int) (r1 : Int) (r2 : ByteArray) (w0 w : World) (hI : IsS63 w0 w g s0_0) (hB : Below w0.heap.size w0 w) (h : patch_buffer_get.f s0_0 a1 a2 = some (r1, r2)) :
  Calls Tryz.prog 19 #[.pointer (some ⟨g, 0, none⟩), .int .i64 a1, .int .i64 a2] w fun e w' => e = .returned (.int .i64 r1) ∧ IsS63 w0 w' g r2 ∧ Below w0.heap.size w0 w' ∧ KeepBut w w' g none := by
 have HI0 := AA hI
 have HK := AA (KeepBut.refl w g none)
 have HL := AA hB.size
 clear hI
 have HW0 := AA hB.size
 have HB := AA hB
 clear hB
 have H : ((octet_Get.f s0_0 a1 a2).bind fun bt227 => (some (bt227.1, s0_0))) = some (r1, r2) := h
 clear h
 replace H := OB H
 obtain ⟨⟨t227, t228⟩, A4, H⟩ := H
 (try set_option simprocs false in dsimp only at H)
 simp only [Option.some.injEq, Prod.mk.injEq] at H
 obtain ⟨rfl, rfl⟩ := H
 obtain ⟨HGz5, hgz5⟩ := HI0.out
 have hcz5_0 := cellS63_0 HGz5
 have hfz5_0 := blk_frozen HGz5 0
 clear HGz5 hgz5
 go_enter Tryz.func19, Tryz.ntmps19
 go_wp2_with (first | ((with_reducible refine gkx 41 rfl ?_); refine gL 16 Tryz.func41 rfl (octet_Get.calls s0_0 a1 a2 t227 t228 _ A4.out) ?_; rintro w6 hb; (try clear A4); replace HK := AA (KeepBut.trans (by repeat (first | (with_reducible first | exact HK.out | apply KeepBut.set_ | apply keep_drewN | apply keep_drew | apply keep_alloc) | exact HK.out)) (KeepBut.of_below hb g none) (.inl rfl)); replace HB := AA (below_step (by repeat (first | (with_reducible first | exact HB.out | apply below_alloc | apply pw_below_drewN | apply below_drew1 | refine below_set ?_ (IsS63.ge HI0.out)) | exact HB.out)) hb); replace HI0 := AA (IsS63.below (by repeat (first | (with_reducible first | exact HI0.out | apply IsS63.alloc | apply IsS63.drewN | apply IsS63.drew | apply IsS63.set_0) | exact HI0.out)) hb); (try clear hb)))
 go_ret
 exact ⟨RT, by repeat (first | (with_reducible first | exact HI0.out | apply IsS63.alloc | apply IsS63.drewN | apply IsS63.drew | apply IsS63.set_0) | exact HI0.out), by repeat (first | (with_reducible first | exact HB.out | apply below_alloc | apply pw_below_drewN | apply below_drew1 | refine below_set ?_ (IsS63.ge HI0.out)) | exact HB.out), by repeat (first | (with_reducible first | exact HK.out | apply KeepBut.set_ | apply keep_drewN | apply keep_drew | apply keep_alloc) | exact HK.out)⟩

theorem patch_buffer_get_eq {s : ByteArray} (a b : Int) (h : s.size ≤ 281474976710656) : patch_buffer_get.f s a b = some ((Sp.get (bl s) a b).1, s) := by
 unfold patch_buffer_get.f
 rw [octet_Get_eq _ _ _ h, Option.bind_some]
/-! ### patch_buffer_check: function 22 -/
def patch_buffer_check.f (s0_0 : ByteArray) (a1 : Int) (a2 : Int) (a3 : Int) : Option (ByteArray) := (patch_buffer_put.f s0_0 a1 2 0).bind fun t230 => (if 0 ≤ a2 then (if a2 ≤ a3 then (if a3 ≤ (t230.size : Int) then ((cksum_Check.f (t230.extract (a2 : Int).toNat (a3 : Int).toNat)).bind fun t231 => ((patch_buffer_put.f t230 a1 2 (wrap64 (t231))).bind fun t232 => (some t232))) else (none)) else (none)) else (none))
set_option maxHeartbeats 8000000 in
set_option maxRecDepth 100000 in
theorem patch_buffer_check.calls (g : Nat) (s0_0 : ByteArray) (a1 : Int) (a2 : Int) (a3 : Int) (r : ByteArray) (w0 w : World) (hI : IsS63 w0 w g s0_0) (hB : Below w0.heap.size w0 w) (h : patch_buffer_check.f s0_0 a1 a2 a3 = some r) :
  Calls Tryz.prog 22 #[.pointer (some ⟨g, 0, none⟩), .int .i64 a1, .int .i64 a2, .int .i64 a3] w fun e w' => e = .returned (.tuple #[]) ∧ IsS63 w0 w' g r ∧ Below w0.heap.size w0 w' ∧ KeepBut w w' g none := by
 have HI0 := AA hI
 have HK := AA (KeepBut.refl w g none)
 have HL := AA hB.size
 clear hI
 have HW0 := AA hB.size
 have HB := AA hB
 clear hB
 have H := h
 unfold patch_buffer_check.f at H
 clear h
 replace H := OB H
 obtain ⟨t230, A5, H⟩ := H
 (try set_option simprocs false in dsimp only at H)
 replace H := IU H
 obtain ⟨c6b0, c6b1, H⟩ := H
 replace H := IU H
 obtain ⟨c7b0, c7b1, H⟩ := H
 replace H := IU H
 obtain ⟨c8b0, c8b1, H⟩ := H
 replace H := OB H
 obtain ⟨t231, A9, H⟩ := H
 (try set_option simprocs false in dsimp only at H)
 replace H := OB H
 obtain ⟨t232, A10, H⟩ := H
 (try set_option simprocs false in dsimp only at H)
 obtain rfl := Option.some.inj H
 go_enter Tryz.func22, Tryz.ntmps22
 go_wp2_with (first | ((with_reducible refine gkx 18 rfl ?_); refine goesL_ (some 10) rfl rfl Tryz.func18 (by kernel_rfl) rfl #[.pointer (some ⟨g, 0, none⟩), .int .i64 a1, .int .i64 2, .int .i64 0] rfl AG ?_; (with_reducible refine (patch_buffer_put.calls g s0_0 a1 2 0 t230 w0 _ ?side1 ?side2 A5.out).mono ?_); (case side1 => repeat (first | (with_reducible first | exact HI0.out | apply IsS63.alloc | apply IsS63.drewN | apply IsS63.drew | apply IsS63.set_0) | exact HI0.out)); (case side2 => repeat (first | (with_reducible first | exact HB.out | apply below_alloc | apply pw_below_drewN | apply below_drew1 | refine below_set ?_ (IsS63.ge HI0.out)) | exact HB.out)); rintro e w11 ⟨rfl, hi, hb, hk⟩; refine ⟨_, rfl, ?_⟩; replace HK := AA (KeepBut.trans (by repeat (first | (with_reducible first | exact HK.out | apply KeepBut.set_ | apply keep_drewN | apply keep_drew | apply keep_alloc) | exact HK.out)) hk (.inl rfl)); replace HB := AA hb; replace HI0 := AA hi; (try clear hb); (try clear hk); (try clear hi); obtain ⟨HGz12, hgz12⟩ := HI0.out; have hcz12_0 := cellS63_0 HGz12; have hfz12_0 := blk_frozen HGz12 0; clear HGz12 hgz12) | ((with_reducible refine gkx 43 rfl ?_); refine gL 20 Tryz.func43 rfl (cksum_Check.calls (t230.extract (a2 : Int).toNat (a3 : Int).toNat) t231 _ A9.out) ?_; rintro w13 hb; (try clear A9); replace HK := AA (KeepBut.trans (by repeat (first | (with_reducible first | exact HK.out | apply KeepBut.set_ | apply keep_drewN | apply keep_drew | apply keep_alloc) | exact HK.out)) (KeepBut.of_below hb g none) (.inl rfl)); replace HB := AA (below_step (by repeat (first | (with_reducible first | exact HB.out | apply below_alloc | apply pw_below_drewN | apply below_drew1 | refine below_set ?_ (IsS63.ge HI0.out)) | exact HB.out)) hb); replace HI0 := AA (IsS63.below (by repeat (first | (with_reducible first | exact HI0.out | apply IsS63.alloc | apply IsS63.drewN | apply IsS63.drew | apply IsS63.set_0) | exact HI0.out)) hb); (try clear hb); (try clear hk); (try clear hi)) | ((with_reducible refine gkx 18 rfl ?_); refine goesL_ (some 22) rfl rfl Tryz.func18 (by kernel_rfl) rfl #[.pointer (some ⟨g, 0, none⟩), .int .i64 a1, .int .i64 2, .int .i64 (wrap64 (t231))] rfl AG ?_; (with_reducible refine (patch_buffer_put.calls g t230 a1 2 (wrap64 (t231)) t232 w0 _ ?side1 ?side2 A10.out).mono ?_); (case side1 => repeat (first | (with_reducible first | exact HI0.out | apply IsS63.alloc | apply IsS63.drewN | apply IsS63.drew | apply IsS63.set_0) | exact HI0.out)); (case side2 => repeat (first | (with_reducible first | exact HB.out | apply below_alloc | apply pw_below_drewN | apply below_drew1 | refine below_set ?_ (IsS63.ge HI0.out)) | exact HB.out)); rintro e w14 ⟨rfl, hi, hb, hk⟩; refine ⟨_, rfl, ?_⟩; replace HK := AA (KeepBut.trans (by repeat (first | (with_reducible first | exact HK.out | apply KeepBut.set_ | apply keep_drewN | apply keep_drew | apply keep_alloc) | exact HK.out)) hk (.inl rfl)); replace HB := AA hb; replace HI0 := AA hi; (try clear hb); (try clear hk); (try clear hi)))
 first | go_end0 | ((try simp only [Exit.inBlock, Exit.then]); refine bodyPost_ret (results_none rfl _ _ _) rfl ?_)
 exact ⟨RT, by repeat (first | (with_reducible first | exact HI0.out | apply IsS63.alloc | apply IsS63.drewN | apply IsS63.drew | apply IsS63.set_0) | exact HI0.out), by repeat (first | (with_reducible first | exact HB.out | apply below_alloc | apply pw_below_drewN | apply below_drew1 | refine below_set ?_ (IsS63.ge HI0.out)) | exact HB.out), by repeat (first | (with_reducible first | exact HK.out | apply KeepBut.set_ | apply keep_drewN | apply keep_drew | apply keep_alloc) | exact HK.out)⟩

theorem patch_buffer_check_eq {s : ByteArray} {a f t : Int} (h : s.size ≤ 281474976710656) (h0 : 0 ≤ f) (h1 : f ≤ t) (h2 : t ≤ s.size) : patch_buffer_check.f s a f t = some (lb (Sp.recheck (bl s) a f t)) := by
 have hl := pt_len (bl s) a 2 0
 rw [bl_length] at hl
 have he : (lb (Sp.bput (bl s) a 2 0)).extract f.toNat t.toNat = lb (((Sp.bput (bl s) a 2 0).take t.toNat).drop f.toNat) := Sp.bl_inj (by rw [Sp.bl_extract, Sp.bl_lb, Sp.bl_lb])
 have hc := Sp.check_bounds (((Sp.bput (bl s) a 2 0).take t.toNat).drop f.toNat)
 unfold patch_buffer_check.f
 rw [patch_buffer_put_eq _ _ _ h, Option.bind_some, if_pos h0, if_pos h1, if_pos (by rw [lb_size]; omega), he, cksum_Check_eq (by rw [lb_size, List.length_drop, List.length_take]; omega), Option.bind_some, bl_lb, wrap_id (by omega) (by omega), patch_buffer_put_eq _ _ _ (by rw [lb_size]; omega), Option.bind_some, bl_lb]
 rfl
/-! ### patch_buffer_outer: function 17 -/
def patch_buffer_outer.f (s0_0 : ByteArray) (a1 : Int) (a2 : Int) (a3 : Int) : Option (ByteArray) := (patch_buffer_get.f s0_0 8 1).bind fun bt233 => ((patch_buffer_put.f bt233.2 8 1 (wrap64 (bt233.1 - 1))).bind fun t235 => ((patch_buffer_put.f t235 12 4 (wrap64 (a2))).bind fun t236 => ((patch_buffer_put.f t236 16 4 (wrap64 (a3))).bind fun t237 => ((patch_buffer_check.f t237 10 0 a1).bind fun t238 => (some t238)))))
set_option maxHeartbeats 8000000 in
set_option maxRecDepth 100000 in
theorem patch_buffer_outer.calls (g : Nat) (s0_0 : ByteArray) (a1 : Int) (a2 : Int) (a3 : Int) (r : ByteArray) (w0 w : World) (hI : IsS63 w0 w g s0_0) (hB : Below w0.heap.size w0 w) (h : patch_buffer_outer.f s0_0 a1 a2 a3 = some r) :
  Calls Tryz.prog 17 #[.pointer (some ⟨g, 0, none⟩), .int .i64 a1, .int .u32 a2, .int .u32 a3] w fun e w' => e = .returned (.tuple #[]) ∧ IsS63 w0 w' g r ∧ Below w0.heap.size w0 w' ∧ KeepBut w w' g none := by
 have HI0 := AA hI
 have HK := AA (KeepBut.refl w g none)
 have HL := AA hB.size
 clear hI
 have HW0 := AA hB.size
 have HB := AA hB
 clear hB
 have H := h
 unfold patch_buffer_outer.f at H
 clear h
 replace H := OB H
 obtain ⟨⟨t233, t234⟩, A5, H⟩ := H
 (try set_option simprocs false in dsimp only at H)
 replace H := OB H
 obtain ⟨t235, A6, H⟩ := H
 (try set_option simprocs false in dsimp only at H)
 replace H := OB H
 obtain ⟨t236, A7, H⟩ := H
 (try set_option simprocs false in dsimp only at H)
 replace H := OB H
 obtain ⟨t237, A8, H⟩ := H
 (try set_option simprocs false in dsimp only at H)
 replace H := OB H
 obtain ⟨t238, A9, H⟩ := H
 (try set_option simprocs false in dsimp only at H)
 obtain rfl := Option.some.inj H
 go_enter Tryz.func17, Tryz.ntmps17
 go_wp2_with (first | ((with_reducible refine gkx 19 rfl ?_); refine goesL_ (some 10) rfl rfl Tryz.func19 (by kernel_rfl) rfl #[.pointer (some ⟨g, 0, none⟩), .int .i64 8, .int .i64 1] rfl AG ?_; (with_reducible refine (patch_buffer_get.calls g s0_0 8 1 t233 t234 w0 _ ?side1 ?side2 A5.out).mono ?_); (case side1 => repeat (first | (with_reducible first | exact HI0.out | apply IsS63.alloc | apply IsS63.drewN | apply IsS63.drew | apply IsS63.set_0) | exact HI0.out)); (case side2 => repeat (first | (with_reducible first | exact HB.out | apply below_alloc | apply pw_below_drewN | apply below_drew1 | refine below_set ?_ (IsS63.ge HI0.out)) | exact HB.out)); rintro e w10 ⟨rfl, hi, hb, hk⟩; refine ⟨_, rfl, ?_⟩; replace HK := AA (KeepBut.trans (by repeat (first | (with_reducible first | exact HK.out | apply KeepBut.set_ | apply keep_drewN | apply keep_drew | apply keep_alloc) | exact HK.out)) hk (.inl rfl)); replace HB := AA hb; replace HI0 := AA hi; (try clear hb); (try clear hk); (try clear hi)) | ((with_reducible refine gkx 18 rfl ?_); refine goesL_ (some 12) rfl rfl Tryz.func18 (by kernel_rfl) rfl #[.pointer (some ⟨g, 0, none⟩), .int .i64 8, .int .i64 1, .int .i64 (wrap64 (t233 - 1))] rfl AG ?_; (with_reducible refine (patch_buffer_put.calls g t234 8 1 (wrap64 (t233 - 1)) t235 w0 _ ?side1 ?side2 A6.out).mono ?_); (case side1 => repeat (first | (with_reducible first | exact HI0.out | apply IsS63.alloc | apply IsS63.drewN | apply IsS63.drew | apply IsS63.set_0) | exact HI0.out)); (case side2 => repeat (first | (with_reducible first | exact HB.out | apply below_alloc | apply pw_below_drewN | apply below_drew1 | refine below_set ?_ (IsS63.ge HI0.out)) | exact HB.out)); rintro e w11 ⟨rfl, hi, hb, hk⟩; refine ⟨_, rfl, ?_⟩; replace HK := AA (KeepBut.trans (by repeat (first | (with_reducible first | exact HK.out | apply KeepBut.set_ | apply keep_drewN | apply keep_drew | apply keep_alloc) | exact HK.out)) hk (.inl rfl)); replace HB := AA hb; replace HI0 := AA hi; (try clear hb); (try clear hk); (try clear hi)) | ((with_reducible refine gkx 18 rfl ?_); refine goesL_ (some 16) rfl rfl Tryz.func18 (by kernel_rfl) rfl #[.pointer (some ⟨g, 0, none⟩), .int .i64 12, .int .i64 4, .int .i64 (wrap64 (a2))] rfl AG ?_; (with_reducible refine (patch_buffer_put.calls g t235 12 4 (wrap64 (a2)) t236 w0 _ ?side1 ?side2 A7.out).mono ?_); (case side1 => repeat (first | (with_reducible first | exact HI0.out | apply IsS63.alloc | apply IsS63.drewN | apply IsS63.drew | apply IsS63.set_0) | exact HI0.out)); (case side2 => repeat (first | (with_reducible first | exact HB.out | apply below_alloc | apply pw_below_drewN | apply below_drew1 | refine below_set ?_ (IsS63.ge HI0.out)) | exact HB.out)); rintro e w12 ⟨rfl, hi, hb, hk⟩; refine ⟨_, rfl, ?_⟩; replace HK := AA (KeepBut.trans (by repeat (first | (with_reducible first | exact HK.out | apply KeepBut.set_ | apply keep_drewN | apply keep_drew | apply keep_alloc) | exact HK.out)) hk (.inl rfl)); replace HB := AA hb; replace HI0 := AA hi; (try clear hb); (try clear hk); (try clear hi)) | ((with_reducible refine gkx 18 rfl ?_); refine goesL_ (some 20) rfl rfl Tryz.func18 (by kernel_rfl) rfl #[.pointer (some ⟨g, 0, none⟩), .int .i64 16, .int .i64 4, .int .i64 (wrap64 (a3))] rfl AG ?_; (with_reducible refine (patch_buffer_put.calls g t236 16 4 (wrap64 (a3)) t237 w0 _ ?side1 ?side2 A8.out).mono ?_); (case side1 => repeat (first | (with_reducible first | exact HI0.out | apply IsS63.alloc | apply IsS63.drewN | apply IsS63.drew | apply IsS63.set_0) | exact HI0.out)); (case side2 => repeat (first | (with_reducible first | exact HB.out | apply below_alloc | apply pw_below_drewN | apply below_drew1 | refine below_set ?_ (IsS63.ge HI0.out)) | exact HB.out)); rintro e w13 ⟨rfl, hi, hb, hk⟩; refine ⟨_, rfl, ?_⟩; replace HK := AA (KeepBut.trans (by repeat (first | (with_reducible first | exact HK.out | apply KeepBut.set_ | apply keep_drewN | apply keep_drew | apply keep_alloc) | exact HK.out)) hk (.inl rfl)); replace HB := AA hb; replace HI0 := AA hi; (try clear hb); (try clear hk); (try clear hi)) | ((with_reducible refine gkx 22 rfl ?_); refine goesL_ (some 23) rfl rfl Tryz.func22 (by kernel_rfl) rfl #[.pointer (some ⟨g, 0, none⟩), .int .i64 10, .int .i64 0, .int .i64 a1] rfl AG ?_; (with_reducible refine (patch_buffer_check.calls g t237 10 0 a1 t238 w0 _ ?side1 ?side2 A9.out).mono ?_); (case side1 => repeat (first | (with_reducible first | exact HI0.out | apply IsS63.alloc | apply IsS63.drewN | apply IsS63.drew | apply IsS63.set_0) | exact HI0.out)); (case side2 => repeat (first | (with_reducible first | exact HB.out | apply below_alloc | apply pw_below_drewN | apply below_drew1 | refine below_set ?_ (IsS63.ge HI0.out)) | exact HB.out)); rintro e w14 ⟨rfl, hi, hb, hk⟩; refine ⟨_, rfl, ?_⟩; replace HK := AA (KeepBut.trans (by repeat (first | (with_reducible first | exact HK.out | apply KeepBut.set_ | apply keep_drewN | apply keep_drew | apply keep_alloc) | exact HK.out)) hk (.inl rfl)); replace HB := AA hb; replace HI0 := AA hi; (try clear hb); (try clear hk); (try clear hi)))
 first | go_end0 | ((try simp only [Exit.inBlock, Exit.then]); refine bodyPost_ret (results_none rfl _ _ _) rfl ?_)
 exact ⟨RT, by repeat (first | (with_reducible first | exact HI0.out | apply IsS63.alloc | apply IsS63.drewN | apply IsS63.drew | apply IsS63.set_0) | exact HI0.out), by repeat (first | (with_reducible first | exact HB.out | apply below_alloc | apply pw_below_drewN | apply below_drew1 | refine below_set ?_ (IsS63.ge HI0.out)) | exact HB.out), by repeat (first | (with_reducible first | exact HK.out | apply KeepBut.set_ | apply keep_drewN | apply keep_drew | apply keep_alloc) | exact HK.out)⟩

theorem pt_small (s : List UInt8) (a b : Int) : 0 ≤ (Sp.get s a b).1 ∧ (Sp.get s a b).1 < 4294967296 := by
 unfold Sp.get
 split
 case isTrue h => have := Sp.has_iff.1 h; exact Sp.beNum_small _ (by rw [List.length_take]; omega)
 case isFalse => exact ⟨by decide, by decide⟩
theorem patch_buffer_outer_eq {s : ByteArray} {n x y : Int} (h : s.size ≤ 281474976710656) (h0 : 0 ≤ n) (h1 : n ≤ s.size) (hx : 0 ≤ x ∧ x ≤ 4294967295) (hy : 0 ≤ y ∧ y ≤ 4294967295) : patch_buffer_outer.f s n x y = some (lb (Sp.outer (bl s) n x y)) := by
 have hg := pt_small (bl s) 8 1
 have l1 := pt_len (bl s) 8 1 ((Sp.get (bl s) 8 1).1 - 1)
 have l2 := pt_len (Sp.bput (bl s) 8 1 ((Sp.get (bl s) 8 1).1 - 1)) 12 4 x
 have l3 := pt_len (Sp.bput (Sp.bput (bl s) 8 1 ((Sp.get (bl s) 8 1).1 - 1)) 12 4 x) 16 4 y
 rw [bl_length] at l1
 unfold patch_buffer_outer.f
 rw [patch_buffer_get_eq _ _ h, Option.bind_some]
 simp only
 rw [wrap_id (n := (Sp.get (bl s) 8 1).1 - 1) (by omega) (by omega), wrap_id (n := x) (by omega) (by omega), wrap_id (n := y) (by omega) (by omega), patch_buffer_put_eq _ _ _ h, Option.bind_some, patch_buffer_put_eq _ _ _ (by rw [lb_size]; omega), Option.bind_some, bl_lb, patch_buffer_put_eq _ _ _ (by rw [lb_size]; omega), Option.bind_some, bl_lb, patch_buffer_check_eq (by rw [lb_size]; omega) (by decide) h0 (by rw [lb_size]; omega), Option.bind_some, bl_lb]
 rfl
/-! ### patch_Plain: function 10 -/
theorem pt_stop {p : Prop} (h : Aside0 p) : p := h.out
theorem pt_step {W W' : World} {x : Obj} {B : Nat} (h : W.heap[B]? = some x) (hb : Below W.heap.size W W') : W'.heap[B]? = some x := by
 rw [hb.block _ (Array.getElem?_eq_some_iff.1 h).1]; exact h
theorem pt_alloc {W : World} {x : Obj} {B : Nat} (o : Obj) (h : W.heap[B]? = some x) : (W.alloc o).heap[B]? = some x := by
 have hl := (Array.getElem?_eq_some_iff.1 h).1
 simp only [World.alloc, Array.getElem?_push]
 rw [if_neg (by omega)]; exact h
theorem pt_lt {W : World} {x : Obj} {B : Nat} (h : W.heap[B]? = some x) : B < W.heap.size := (Array.getElem?_eq_some_iff.1 h).1
theorem pt_below {B : Nat} {w W W' : World} (h : Below B w W) (hB : B ≤ W.heap.size) (hb : Below W.heap.size W W') : Below B w W' := h.trans ⟨hb.os, hb.tape, hb.output, hb.size, fun k hk => hb.block k (by omega)⟩
theorem pt_drew {W : World} {x : Obj} {B : Nat} (h : W.heap[B]? = some x) : W.drew.heap[B]? = some x := h
theorem pt_below_drew {B : Nat} {w W : World} (h : Below B w W) : Below B w W.drew := ⟨h.os, h.tape, h.output, h.size, h.block⟩
theorem pt_keep {W W' : World} {x : Obj} {B g : Nat} (h : W.heap[B]? = some x) (hk : KeepBut W W' g none) (hne : B ≠ g) : W'.heap[B]? = some x := (hk.2 B (pt_lt h) hne (by simp)).trans h
theorem pt_sets {w0 w : World} {A B gb : Nat} {t t1 t2 : TypeId} {cs ds : Array Value} {c0 c1 c2 c3 c4 c5 c6 c7 c8 c9 c10 c11 c12 c13 : Value} (p0 p1 p2 p3 p4 p5 p6 p7 p8 p9 p10 p11 p12 p13 : Int) (hT : w.heap[A]? = some (.cells cs t1 (0, 0))) (hZ : w.heap[B]? = some (.cells ds t2 (0, 0))) (hX : w.heap[gb]? = some (.cells #[c0, c1, c2, c3, c4, c5, c6, c7, c8, c9, c10, c11, c12, c13] t (0, 0))) (hB : Below A w0 w) (h1 : A < gb) (h2 : B < gb) : ∃ w3, ((((((((((((((w.setCell ⟨gb, 0, none⟩ (.int .i64 p0)).setCell ⟨gb, 1, none⟩ (.int .i64 p1)).setCell ⟨gb, 2, none⟩ (.int .i64 p2)).setCell ⟨gb, 3, none⟩ (.int .i64 p3)).setCell ⟨gb, 4, none⟩ (.int .u32 p4)).setCell ⟨gb, 5, none⟩ (.int .u32 p5)).setCell ⟨gb, 6, none⟩ (.int .i64 p6)).setCell ⟨gb, 7, none⟩ (.int .i64 p7)).setCell ⟨gb, 8, none⟩ (.int .i64 p8)).setCell ⟨gb, 9, none⟩ (.int .i64 p9)).setCell ⟨gb, 10, none⟩ (.int .u32 p10)).setCell ⟨gb, 11, none⟩ (.int .u32 p11)).setCell ⟨gb, 12, none⟩ (.int .i64 p12)).setCell ⟨gb, 13, none⟩ (.int .i64 p13)) = w3 ∧ w3.heap[A]? = some (.cells cs t1 (0, 0)) ∧ w3.heap[B]? = some (.cells ds t2 (0, 0)) ∧ w3.heap[gb]? = some (.cells (rr14 p0 p1 p2 p3 p4 p5 p6 p7 p8 p9 p10 p11 p12 p13) t (0, 0)) ∧ Below A w0 w3 :=
 ⟨_, rfl, far14 hT (by omega), far14 hZ (by omega), put14 hX, bel14 hB (by omega)⟩
set_option maxRecDepth 100000 in
set_option maxHeartbeats 16000000 in
theorem pt_open_x (s : ByteArray) (w : World) (A : Nat) (hA : w.heap.size = A) (kind src dst sp dp er : Int) (p0 p1 p2 p3 p4 p5 p6 p7 p8 p9 p10 p11 p12 p13 : Int) (HC : ∀ W, Calls Tryz.prog 38 #[.string s] W fun e w' => e = .returned (.tuple #[.agg (rr14 p0 p1 p2 p3 p4 p5 p6 p7 p8 p9 p10 p11 p12 p13), .int .i64 er]) ∧ Below W.heap.size W w') (ba bb : Bool) (r1 r2 : ByteArray) (H1 : ∀ W, Calls Tryz.prog 39 #[.int .i64 2, .int .i64 sp] W fun e w' => e = .returned (.tuple #[.string r1, .bool ba]) ∧ Below W.heap.size W w') (H2 : ∀ W, Calls Tryz.prog 39 #[.int .i64 2, .int .i64 dp] W fun e w' => e = .returned (.tuple #[.string r2, .bool bb]) ∧ Below W.heap.size W w') (E : Int)
  (hc : (er ≠ 0 ∧ E = er) ∨ (er = 0 ∧ ((p0 ≠ kind ∧ E = 1) ∨ (p0 = kind ∧ ((ba = false ∧ E = 1) ∨ (ba = true ∧ ((bb = false ∧ E = 1) ∨ (bb = true ∧ p9 < 2 ∧ E = 11)))))))) :
  Calls Tryz.prog 14 #[.string s, .int .i64 kind, .agg #[.int .u32 src, .int .u32 dst, .int .i64 sp, .int .i64 dp]] w fun e w' => e = .returned (.tuple #[.agg (rr14 p0 p1 p2 p3 p4 p5 p6 p7 p8 p9 p10 p11 p12 p13), .pointer none, .int .i64 E]) ∧ Below A w w' := by
 have hAe := Lib.hid hA
 have hC := Lib.hid hc
 clear hA hc
 go_enter Tryz.func14, Tryz.ntmps14
 go_wp2_with (fail)
 refine (HC _).mono ?_
 rintro e w1 ⟨rfl, hb⟩
 have hT : w1.heap[w.heap.size]? = some (.cells #[.int .u32 src, .int .u32 dst, .int .i64 sp, .int .i64 dp] 27 (0, 0)) := pt_step (pt_alloc _ (World.alloc_heap_new w _)) hb
 have hZ : w1.heap[w.heap.size + 1]? = some (.cells (rr14 0 0 0 0 0 0 0 0 0 0 0 0 0 0) 51 (0, 0)) := by
  have := World.alloc_heap_new (w.alloc (.cells #[.int .u32 src, .int .u32 dst, .int .i64 sp, .int .i64 dp] 27)) (.cells (rr14 0 0 0 0 0 0 0 0 0 0 0 0 0 0) 51)
  rw [World.size_alloc] at this
  exact pt_step this hb
 have hB := below_step (below_alloc (below_alloc (Below.refl _ _) _) _) hb
 clear hb
 rw [hAe.out] at hT hZ hB ⊢
 have hA1 : A + 1 < w1.heap.size := pt_lt hZ
 have HQ0 := Lib.hid (And.intro hT (And.intro hZ hB))
 clear hT hZ hB
 go_wp2_with (first | ((with_reducible refine gate_dst (N := 9) rfl ?_); refine bx 9 51 #[.int .i64 0, .int .i64 0, .int .i64 0, .int .i64 0, .int .u32 0, .int .u32 0, .int .i64 0, .int .i64 0, .int .i64 0, .int .i64 0, .int .u32 0, .int .u32 0, .int .i64 0, .int .i64 0] ?_; intro gb hg w2 hbox hb2; have hlt : A + 1 < gb := (by omega); have HQ := Lib.hid (And.intro (pt_step HQ0.out.1 hb2) (And.intro (pt_step HQ0.out.2.1 hb2) (And.intro hbox (pt_below HQ0.out.2.2 (by omega) hb2)))); have x_ := blk14 hbox; clear hbox hb2 hg HQ0) | ((with_reducible refine gate_dst (N := 21) rfl ?_); refine pt_stop ?_))
 obtain ⟨hT, hZ, hX, hB⟩ := HQ.out
 clear HQ x_
 refine Aside0.mk ?_
 obtain ⟨w3, e3, hT1, hZ1, hX1, hB1⟩ := pt_sets p0 p1 p2 p3 p4 p5 p6 p7 p8 p9 p10 p11 p12 p13 hT hZ hX hB (by omega) (by omega)
 rw [e3]
 clear hT hZ hX hB e3
 rcases hC.out with ⟨h, rfl⟩ | ⟨rfl, hk⟩
 have d0 := NT h
 have d1 := BF h
 clear h hC hT1
 rotate_left
 have t_ := blk4 hT1
 have HQ := Lib.hid (And.intro hT1 (And.intro hZ1 (And.intro hX1 (And.intro hB1 hk))))
 clear hT1 hZ1 hX1 hB1 hk hC
 focus go_wp2_with (fail)
 obtain ⟨hT1, hZ1, hX1, hB1, hk⟩ := HQ.out
 clear HQ t_
 refine (H1 _).mono ?_
 rintro e w4 ⟨rfl, hb⟩
 replace hB1 := pt_below hB1 (by have := pt_lt hZ1; omega) hb
 replace hT1 := pt_step hT1 hb
 replace hZ1 := pt_step hZ1 hb
 replace hX1 := pt_step hX1 hb
 clear hb
 have t_ := blk4 hT1
 have HQ := Lib.hid (And.intro hZ1 (And.intro hX1 (And.intro hB1 hk)))
 clear hT1 hZ1 hX1 hB1 hk
 focus go_wp2_with (fail)
 obtain ⟨hZ1, hX1, hB1, hk⟩ := HQ.out
 clear HQ t_
 refine (H2 _).mono ?_
 rintro e w5 ⟨rfl, hb⟩
 replace hB1 := pt_below hB1 (by have := pt_lt hZ1; omega) hb
 replace hZ1 := pt_step hZ1 hb
 replace hX1 := pt_step hX1 hb
 clear hb
 rcases hk with ⟨h, rfl⟩ | ⟨rfl, ⟨rfl, rfl⟩ | ⟨rfl, ⟨rfl, rfl⟩ | ⟨rfl, h, rfl⟩⟩⟩
 have d0 := NT h
 have d1 := BF h
 clear h
 rotate_left 3
 have d0 := decide_eq_true h
 clear h
 all_goals
  have z_ := blk14 hZ1
  have x_ := blk14 hX1
  have HQ := Lib.hid (And.intro hZ1 hB1)
  clear hZ1 hB1 hX1
  go_wp2_with (fail)
  obtain ⟨hZ1, hB1⟩ := HQ.out
  (try simp only [Exit.inBlock, Exit.then])
  refine bodyPost_ret (results_ctt rfl _ _ (A + 1) 51 _ (0, 0) _ rfl (put14 hZ1) Tryz.underlying51 rfl (by kernel_rfl)) rfl ?_
  exact ⟨rfl, bel14 hB1 (by omega)⟩
set_option maxRecDepth 100000 in
set_option maxHeartbeats 8000000 in
theorem pt_open_ok (s : ByteArray) (w : World) (A : Nat) (hA : w.heap.size = A) (kind src dst sp dp er : Int) (p0 p1 p2 p3 p4 p5 p6 p7 p8 p9 p10 p11 p12 p13 : Int) (HC : ∀ W, Calls Tryz.prog 38 #[.string s] W fun e w' => e = .returned (.tuple #[.agg #[.int .i64 p0, .int .i64 p1, .int .i64 p2, .int .i64 p3, .int .u32 p4, .int .u32 p5, .int .i64 p6, .int .i64 p7, .int .i64 p8, .int .i64 p9, .int .u32 p10, .int .u32 p11, .int .i64 p12, .int .i64 p13], .int .i64 er]) ∧ Below W.heap.size W w') (her : er = 0) (ba bb : Bool) (r1 r2 : ByteArray) (H1 : ∀ W, Calls Tryz.prog 39 #[.int .i64 2, .int .i64 sp] W fun e w' => e = .returned (.tuple #[.string r1, .bool ba]) ∧ Below W.heap.size W w') (H2 : ∀ W, Calls Tryz.prog 39 #[.int .i64 2, .int .i64 dp] W fun e w' => e = .returned (.tuple #[.string r2, .bool bb]) ∧ Below W.heap.size W w') (hk : p0 = kind) (ha : ba = true) (hbb : bb = true) (hl : ¬ p9 < 2) (h20 : 0 ≤ p2) (h2s : p2 ≤ s.size) :
  Calls Tryz.prog 14 #[.string s, .int .i64 kind, .agg #[.int .u32 src, .int .u32 dst, .int .i64 sp, .int .i64 dp]] w fun e w' => ∃ g, e = .returned (.tuple #[.agg #[.int .i64 p0, .int .i64 p1, .int .i64 p2, .int .i64 p3, .int .u32 p4, .int .u32 p5, .int .i64 p6, .int .i64 p7, .int .i64 p8, .int .i64 p9, .int .u32 p10, .int .u32 p11, .int .i64 p12, .int .i64 p13], .pointer (some ⟨g, 0, none⟩), .int .i64 0]) ∧ A ≤ g ∧ w'.heap[g]? = some (.cells #[.string (s.extract 0 p2.toNat)] 63 (0, 0)) ∧ Below A w w' := by
 subst her
 subst hk
 subst ha
 subst hbb
 have d0 : decide (p9 < 2) = false := decide_eq_false hl
 have q1 : decide (0 ≤ p2) = true := decide_eq_true h20
 have q2 : decide (p2 ≤ (s.size : Int)) = true := decide_eq_true h2s
 have q3 : p2.toNat ≤ s.size := by omega
 have hAe := Lib.hid hA
 clear hA
 go_enter Tryz.func14, Tryz.ntmps14
 go_wp2_with (fail)
 refine (HC _).mono ?_
 rintro e w1 ⟨rfl, hb⟩
 have hT : w1.heap[w.heap.size]? = some (.cells #[.int .u32 src, .int .u32 dst, .int .i64 sp, .int .i64 dp] 27 (0, 0)) := pt_step (pt_alloc _ (World.alloc_heap_new w _)) hb
 have hZ : w1.heap[w.heap.size + 1]? = some (.cells (rr14 0 0 0 0 0 0 0 0 0 0 0 0 0 0) 51 (0, 0)) := by
  have := World.alloc_heap_new (w.alloc (.cells #[.int .u32 src, .int .u32 dst, .int .i64 sp, .int .i64 dp] 27)) (.cells (rr14 0 0 0 0 0 0 0 0 0 0 0 0 0 0) 51)
  rw [World.size_alloc] at this
  exact pt_step this hb
 have hB := below_step (below_alloc (below_alloc (Below.refl _ _) _) _) hb
 clear hb
 rw [hAe.out] at hT hZ hB ⊢
 have hA1 : A + 1 < w1.heap.size := pt_lt hZ
 have HQ0 := Lib.hid (And.intro hT (And.intro hZ hB))
 clear hT hZ hB
 go_wp2_with (first | ((with_reducible refine gate_dst (N := 9) rfl ?_); refine bx 9 51 #[.int .i64 0, .int .i64 0, .int .i64 0, .int .i64 0, .int .u32 0, .int .u32 0, .int .i64 0, .int .i64 0, .int .i64 0, .int .i64 0, .int .u32 0, .int .u32 0, .int .i64 0, .int .i64 0] ?_; intro gb hg w2 hbox hb2; have hlt : A + 1 < gb := (by omega); have HQ := Lib.hid (And.intro (pt_step HQ0.out.1 hb2) (And.intro (pt_step HQ0.out.2.1 hb2) (And.intro hbox (pt_below HQ0.out.2.2 (by omega) hb2)))); have x_ := blk14 hbox; clear hbox hb2 hg HQ0) | ((with_reducible refine gate_dst (N := 21) rfl ?_); refine pt_stop ?_))
 obtain ⟨hT, hZ, hX, hB⟩ := HQ.out
 clear HQ x_
 refine Aside0.mk ?_
 obtain ⟨w3, e3, hT1, hZ1, hX1, hB1⟩ := pt_sets p0 p1 p2 p3 p4 p5 p6 p7 p8 p9 p10 p11 p12 p13 hT hZ hX hB (by omega) (by omega)
 rw [e3]
 clear hT hZ hX hB e3
 have t_ := blk4 hT1
 have HQ := Lib.hid (And.intro hT1 (And.intro hZ1 (And.intro hX1 hB1)))
 clear hT1 hZ1 hX1 hB1
 go_wp2_with (fail)
 obtain ⟨hT1, hZ1, hX1, hB1⟩ := HQ.out
 clear HQ t_
 refine (H1 _).mono ?_
 rintro e w4 ⟨rfl, hb⟩
 have hT2 := pt_step hT1 hb
 have hZ2 := pt_step hZ1 hb
 have hX2 := pt_step hX1 hb
 have hB2 := pt_below hB1 (by have := pt_lt hZ1; omega) hb
 clear hb hT1 hZ1 hX1 hB1
 have t_ := blk4 hT2
 have HQ := Lib.hid (And.intro hT2 (And.intro hZ2 (And.intro hX2 hB2)))
 clear hT2 hZ2 hX2 hB2
 go_wp2_with (fail)
 obtain ⟨hT2, hZ2, hX2, hB2⟩ := HQ.out
 clear HQ t_
 refine (H2 _).mono ?_
 rintro e w5 ⟨rfl, hb⟩
 have hZ3 := pt_step hZ2 hb
 have hX3 := pt_step hX2 hb
 have hB3 := pt_below hB2 (by have := pt_lt hZ2; omega) hb
 clear hb hT2 hZ2 hX2 hB2
 have x9 := (blk_cell hX3 9).trans (show _ = some (.int .i64 p9) from rfl)
 have x0 := (blk_cell hX3 0).trans (show _ = some (.int .i64 p0) from rfl)
 have HQ := Lib.hid (And.intro hZ3 (And.intro hX3 hB3))
 clear hZ3 hX3 hB3
 go_wp2_with (fail)
 obtain ⟨hZ3, hX3, hB3⟩ := HQ.out
 clear HQ x0 x9
 refine start_ (n := 10) (S := fun w' => c14 gb p0 p1 p2 p3 p4 p5 p6 p7 p8 p9 p10 p11 p12 p13 w') (ds := []) (bm 10 0x0) (by kernel_rfl) rfl rfl (HCs ⟨pt_drew hX3⟩) (fun hHeld => ?_)
 have hZ4 := pt_drew hZ3
 have hX4 := pt_drew hX3
 have hB4 := pt_below_drew hB3
 clear hZ3 hX3 hB3
 generalize w5.drew = u at hZ4 hX4 hB4 hHeld ⊢
 refine tk 0 55 (bm 10 0x1) hHeld ?_
 refine pk 1 56 (bm 10 0x3) ?_
 refine pk 2 57 (bm 10 0x7) ?_
 refine tk 3 58 (bm 10 0xf) hHeld ?_
 refine pk 4 59 (bm 10 0x1f) ?_
 refine pk 5 60 (bm 10 0x3f) ?_
 refine two_ (i := 6) (j := 7) (Ni := some 61) (Nj := none) (bm 10 0x7f) (bm 10 0xbf) rfl rfl rfl rfl (by kernel_rfl) (by decide) (by decide) (fun K hK => ?_) (fun K hK => ?_)
 ·refine value_ (w1 := ?_) (v := ?_) (by rfl) rfl ?_ ?_
  rotate_left 2
  ·go_simp
   constructor
   ·rfl
   rfl
  have hZ5 := pt_alloc (.cells #[.string (s.extract 0 p2.toNat)] 63) hZ4
  have hX5 := pt_alloc (.cells #[.string (s.extract 0 p2.toNat)] 63) hX4
  have hG5 := World.alloc_heap_new u (.cells #[.string (s.extract 0 p2.toNat)] 63)
  have hAu : A + 1 < u.heap.size := pt_lt hZ4
  have hB5 : Below A w (u.alloc (.cells #[.string (s.extract 0 p2.toNat)] 63)) := Below.alloc hB4 (by omega) _
  clear hHeld hZ4 hX4 hB4
  refine hK.out _ _ (HCs ⟨hX5⟩) (fun hHeld => ?_)
  clear hK K
  refine nm 61 ?_
  generalize u.heap.size = g at *
  generalize u.alloc (.cells #[.string (s.extract 0 p2.toNat)] 63) = u5 at hZ5 hX5 hG5 hB5 hHeld ⊢
  clear u
  have z_ := blk14 hZ5
  refine one_ (i := 7) (N := none) (bm 10 0xff) rfl rfl (by kernel_rfl) (by decide) (fun K hK => ?_)
  refine skip_ (w1 := ?_) (by rfl) rfl ?_ ?_
  rotate_left
  ·go_simp
   rfl
  refine gen14 ⟨hZ5⟩ (fun u6 hp hf hb => ?_)
  have hX6 := hf _ _ (by omega) hX5
  have hG6 := hf _ _ (by omega) hG5
  have hB6 := hb _ _ (by omega) hB5
  have hZ6 := hp.out
  clear hHeld hp hf hb hZ5 hX5 hG5 hB5
  refine hK.out _ _ (HCs ⟨hX6⟩) (fun hHeld => ?_)
  clear hK K z_
  clear u5
  refine pk 8 7 (bm 10 0x1ff) ?_
  refine pk 9 8 (bm 10 0x3ff) ?_
  refine done_ (by kernel_rfl) ?_
  go_wp2_with (fail)
  (try simp only [Exit.inBlock, Exit.then])
  refine bodyPost_ret (results_ctt rfl _ _ (A + 1) 51 #[.int .i64 p0, .int .i64 p1, .int .i64 p2, .int .i64 p3, .int .u32 p4, .int .u32 p5, .int .i64 p6, .int .i64 p7, .int .i64 p8, .int .i64 p9, .int .u32 p10, .int .u32 p11, .int .i64 p12, .int .i64 p13] (0, 0) _ rfl ?_ Tryz.underlying51 rfl (by kernel_rfl)) rfl ?_
  ·exact hZ6
  exact ⟨g, rfl, by omega, hG6, hB6⟩
 have z_ := blk14 hZ4
 refine skip_ (w1 := ?_) (by rfl) rfl ?_ ?_
 rotate_left
 ·go_simp
  rfl
 refine gen14 ⟨hZ4⟩ (fun u5 hp hf hb => ?_)
 have hX5 := hf _ _ (by omega) hX4
 have hB5 := hb _ _ (by omega) hB4
 have hZ5 := hp.out
 clear hHeld hp hf hb hZ4 hX4 hB4
 refine hK.out _ _ (HCs ⟨hX5⟩) (fun hHeld => ?_)
 clear hK K z_
 clear u
 refine one_ (i := 6) (N := some 61) (bm 10 0xff) rfl rfl (by kernel_rfl) (by decide) (fun K hK => ?_)
 refine value_ (w1 := ?_) (v := ?_) (by rfl) rfl ?_ ?_
 rotate_left 2
 ·go_simp
  constructor
  ·rfl
  rfl
 have hZ6 := pt_alloc (.cells #[.string (s.extract 0 p2.toNat)] 63) hZ5
 have hX6 := pt_alloc (.cells #[.string (s.extract 0 p2.toNat)] 63) hX5
 have hG6 := World.alloc_heap_new u5 (.cells #[.string (s.extract 0 p2.toNat)] 63)
 have hAu : A + 1 < u5.heap.size := pt_lt hZ5
 have hB6 : Below A w (u5.alloc (.cells #[.string (s.extract 0 p2.toNat)] 63)) := Below.alloc hB5 (by omega) _
 clear hHeld hZ5 hX5 hB5
 refine hK.out _ _ (HCs ⟨hX6⟩) (fun hHeld => ?_)
 clear hK K
 refine nm 61 ?_
 generalize u5.heap.size = g at *
 generalize u5.alloc (.cells #[.string (s.extract 0 p2.toNat)] 63) = u6 at hZ6 hX6 hG6 hB6 hHeld ⊢
 clear u5
 refine pk 8 7 (bm 10 0x1ff) ?_
 refine pk 9 8 (bm 10 0x3ff) ?_
 refine done_ (by kernel_rfl) ?_
 go_wp2_with (fail)
 (try simp only [Exit.inBlock, Exit.then])
 refine bodyPost_ret (results_ctt rfl _ _ (A + 1) 51 #[.int .i64 p0, .int .i64 p1, .int .i64 p2, .int .i64 p3, .int .u32 p4, .int .u32 p5, .int .i64 p6, .int .i64 p7, .int .i64 p8, .int .i64 p9, .int .u32 p10, .int .u32 p11, .int .i64 p12, .int .i64 p13] (0, 0) _ rfl ?_ Tryz.underlying51 rfl (by kernel_rfl)) rfl ?_
 ·exact hZ6
 exact ⟨g, rfl, by omega, hG6, hB6⟩
theorem pt_put2 (n : Int) : (Sp.put 2 n).2 = Sp.fits 2 n := by unfold Sp.put; cases Sp.fits 2 n <;> rfl
theorem pt_open_no {s : ByteArray} (hs : s.size ≤ 140737488355328) (kind src dst sp dp : Int) (w : World) (h : Sp.ready (bl s) kind sp dp ≠ 0) :
  Calls Tryz.prog 14 #[.string s, .int .i64 kind, .agg #[.int .u32 src, .int .u32 dst, .int .i64 sp, .int .i64 dp]] w fun e w' => e = .returned (.tuple #[.agg #[.int .i64 (Sp.pkt (bl s)).kind, .int .i64 (Sp.pkt (bl s)).at_, .int .i64 (Sp.pkt (bl s)).total, .int .i64 (Sp.pkt (bl s)).proto, .int .u32 (Sp.pkt (bl s)).tsrc, .int .u32 (Sp.pkt (bl s)).tdst, .int .i64 (Sp.pkt (bl s)).sp, .int .i64 (Sp.pkt (bl s)).dp, .int .i64 (Sp.pkt (bl s)).flags, .int .i64 (Sp.pkt (bl s)).ttl, .int .u32 (Sp.pkt (bl s)).src, .int .u32 (Sp.pkt (bl s)).dst, .int .i64 (Sp.pkt (bl s)).quote, .int .i64 (Sp.pkt (bl s)).inner], .pointer none, .int .i64 (Sp.ready (bl s) kind sp dp)]) ∧ Below w.heap.size w w' := by
 have HC := fun W => packet_Classify.calls s _ _ _ _ _ _ _ _ _ _ _ _ _ _ _ W (packet_Classify_eq hs)
 have H1 := fun W => octet_Put.calls 2 sp _ _ W rfl
 have H2 := fun W => octet_Put.calls 2 dp _ _ W rfl
 unfold Sp.ready at h ⊢
 by_cases he : (Sp.pkt (bl s)).e = 0
 rotate_left
 ·rw [if_neg he]
  exact pt_open_x s w _ rfl kind src dst sp dp _ _ _ _ _ _ _ _ _ _ _ _ _ _ _ HC _ _ _ _ H1 H2 _ (Or.inl ⟨he, rfl⟩)
 rw [if_pos he] at h ⊢
 by_cases hk : (Sp.pkt (bl s)).kind = kind
 ·by_cases ha : Sp.fits 2 sp = true
  ·by_cases hb : Sp.fits 2 dp = true
   ·rw [if_pos ⟨hk, ha, hb⟩] at h ⊢
    by_cases hl : (Sp.pkt (bl s)).ttl < 2
    ·rw [if_pos hl]
     exact pt_open_x s w _ rfl kind src dst sp dp _ _ _ _ _ _ _ _ _ _ _ _ _ _ _ HC _ _ _ _ H1 H2 _ (Or.inr ⟨he, Or.inr ⟨hk, Or.inr ⟨(pt_put2 _).trans ha, Or.inr ⟨(pt_put2 _).trans hb, hl, rfl⟩⟩⟩⟩)
    rw [if_neg hl] at h
    exact absurd rfl h
   rw [if_neg (fun g => hb g.2.2)]
   exact pt_open_x s w _ rfl kind src dst sp dp _ _ _ _ _ _ _ _ _ _ _ _ _ _ _ HC _ _ _ _ H1 H2 _ (Or.inr ⟨he, Or.inr ⟨hk, Or.inr ⟨(pt_put2 _).trans ha, Or.inl ⟨(pt_put2 _).trans (Bool.eq_false_iff.mpr hb), rfl⟩⟩⟩⟩)
  rw [if_neg (fun g => ha g.2.1)]
  exact pt_open_x s w _ rfl kind src dst sp dp _ _ _ _ _ _ _ _ _ _ _ _ _ _ _ HC _ _ _ _ H1 H2 _ (Or.inr ⟨he, Or.inr ⟨hk, Or.inl ⟨(pt_put2 _).trans (Bool.eq_false_iff.mpr ha), rfl⟩⟩⟩)
 rw [if_neg (fun g => hk g.1)]
 exact pt_open_x s w _ rfl kind src dst sp dp _ _ _ _ _ _ _ _ _ _ _ _ _ _ _ HC _ _ _ _ H1 H2 _ (Or.inr ⟨he, Or.inl ⟨hk, rfl⟩⟩)
theorem pt_open_yes {s : ByteArray} (hs : s.size ≤ 140737488355328) (kind src dst sp dp : Int) (w : World) (h : Sp.ready (bl s) kind sp dp = 0) (h20 : 0 ≤ (Sp.pkt (bl s)).total) (h2s : (Sp.pkt (bl s)).total ≤ s.size) :
  Calls Tryz.prog 14 #[.string s, .int .i64 kind, .agg #[.int .u32 src, .int .u32 dst, .int .i64 sp, .int .i64 dp]] w fun e w' => ∃ g, e = .returned (.tuple #[.agg #[.int .i64 (Sp.pkt (bl s)).kind, .int .i64 (Sp.pkt (bl s)).at_, .int .i64 (Sp.pkt (bl s)).total, .int .i64 (Sp.pkt (bl s)).proto, .int .u32 (Sp.pkt (bl s)).tsrc, .int .u32 (Sp.pkt (bl s)).tdst, .int .i64 (Sp.pkt (bl s)).sp, .int .i64 (Sp.pkt (bl s)).dp, .int .i64 (Sp.pkt (bl s)).flags, .int .i64 (Sp.pkt (bl s)).ttl, .int .u32 (Sp.pkt (bl s)).src, .int .u32 (Sp.pkt (bl s)).dst, .int .i64 (Sp.pkt (bl s)).quote, .int .i64 (Sp.pkt (bl s)).inner], .pointer (some ⟨g, 0, none⟩), .int .i64 0]) ∧ w.heap.size ≤ g ∧ w'.heap[g]? = some (.cells #[.string (s.extract 0 (Sp.pkt (bl s)).total.toNat)] 63 (0, 0)) ∧ Below w.heap.size w w' := by
 have HC := fun W => packet_Classify.calls s _ _ _ _ _ _ _ _ _ _ _ _ _ _ _ W (packet_Classify_eq hs)
 have H1 := fun W => octet_Put.calls 2 sp _ _ W rfl
 have H2 := fun W => octet_Put.calls 2 dp _ _ W rfl
 unfold Sp.ready at h
 by_cases he : (Sp.pkt (bl s)).e = 0
 ·rw [if_pos he] at h
  by_cases hk : (Sp.pkt (bl s)).kind = kind ∧ Sp.fits 2 sp = true ∧ Sp.fits 2 dp = true
  ·rw [if_pos hk] at h
   by_cases hl : (Sp.pkt (bl s)).ttl < 2
   ·rw [if_pos hl] at h; exact absurd h (by decide)
   exact pt_open_ok s w _ rfl kind src dst sp dp _ _ _ _ _ _ _ _ _ _ _ _ _ _ _ HC he _ _ _ _ H1 H2 hk.1 ((pt_put2 _).trans hk.2.1) ((pt_put2 _).trans hk.2.2) hl h20 h2s
  rw [if_neg hk] at h; exact absurd h (by decide)
 rw [if_neg he] at h; exact absurd h he
set_option maxRecDepth 100000 in
set_option maxHeartbeats 8000000 in
theorem pt_plain_bad (s : ByteArray) (w : World) (A : Nat) (hA : w.heap.size = A) (src dst sp dp : Int) (p0 p1 p2 p3 p4 p5 p6 p7 p8 p9 p10 p11 p12 p13 : Int) (er : Int) (her : er ≠ 0) (HO : ∀ W, Calls Tryz.prog 14 #[.string s, .int .i64 1, .agg #[.int .u32 src, .int .u32 dst, .int .i64 sp, .int .i64 dp]] W fun e w' => e = .returned (.tuple #[.agg #[.int .i64 p0, .int .i64 p1, .int .i64 p2, .int .i64 p3, .int .u32 p4, .int .u32 p5, .int .i64 p6, .int .i64 p7, .int .i64 p8, .int .i64 p9, .int .u32 p10, .int .u32 p11, .int .i64 p12, .int .i64 p13], .pointer none, .int .i64 er]) ∧ Below W.heap.size W w') :
  Calls Tryz.prog 10 #[.string s, .agg #[.int .u32 src, .int .u32 dst, .int .i64 sp, .int .i64 dp]] w fun e w' => e = .returned (.tuple #[.string ⟨#[]⟩, .int .i64 er]) ∧ Below A w w' := by
 have d0 : (er != 0) = true := by simpa using her
 have d1 : (er == 0) = false := by simpa using her
 clear her
 have hAe := Lib.hid hA
 clear hA
 have tt := blk4 (World.alloc_heap_new w (.cells #[.int .u32 src, .int .u32 dst, .int .i64 sp, .int .i64 dp] 27))
 obtain ⟨t0, t1, t2, t3⟩ := tt
 go_enter Tryz.func10, Tryz.ntmps10
 go_wp2_with (fail)
 clear t0 t1 t2 t3
 refine (HO _).mono ?_
 rintro e w1 ⟨rfl, hb⟩
 have hB := below_step (below_alloc (Below.refl _ _) _) hb
 rw [hAe.out] at hB
 have hAH : A ≤ w1.heap.size := by have := hB.size; have := hAe.out; omega
 have HQ := Lib.hid hB
 clear hb hB
 go_wp2_with (fail)
 go_ret2
 exact ⟨rfl, Below.alloc HQ.out hAH _⟩
set_option maxRecDepth 100000 in
set_option maxHeartbeats 8000000 in
theorem pt_plain_early (s : ByteArray) (w : World) (A : Nat) (hA : w.heap.size = A) (src dst sp dp : Int) (p0 p1 p2 p3 p4 p5 p6 p7 p8 p9 p10 p11 p12 p13 : Int) (b0 b1 b2 b3 : ByteArray) (HO : ∀ W, Calls Tryz.prog 14 #[.string s, .int .i64 1, .agg #[.int .u32 src, .int .u32 dst, .int .i64 sp, .int .i64 dp]] W fun e w' => ∃ g, e = .returned (.tuple #[.agg #[.int .i64 p0, .int .i64 p1, .int .i64 p2, .int .i64 p3, .int .u32 p4, .int .u32 p5, .int .i64 p6, .int .i64 p7, .int .i64 p8, .int .i64 p9, .int .u32 p10, .int .u32 p11, .int .i64 p12, .int .i64 p13], .pointer (some ⟨g, 0, none⟩), .int .i64 0]) ∧ W.heap.size ≤ g ∧ w'.heap[g]? = some (.cells #[.string b0] 63 (0, 0)) ∧ Below W.heap.size W w') (E1 : patch_buffer_outer.f b0 p1 src dst = some b1) (E2 : patch_buffer_put.f b1 p1 2 sp = some b2) (E3 : patch_buffer_put.f b2 (p1 + 2) 2 dp = some b3) (pl : Int) (pok : Bool) (HPl : ∀ W, Calls Tryz.prog 20 #[.int .i64 p3] W fun e w' => e = .returned (.tuple #[.int .i64 pl, .bool pok]) ∧ Below W.heap.size W w') (hw1 : wrap64 (p1 + 2) = p1 + 2) (n : Int) (hw2 : wrap64 (p1 + pl) = p1 + pl) (E4 : patch_buffer_get.f b3 (p1 + pl) 2 = some (n, b3)) (h17 : p3 = 17) (hn : n = 0) :
  Calls Tryz.prog 10 #[.string s, .agg #[.int .u32 src, .int .u32 dst, .int .i64 sp, .int .i64 dp]] w fun e w' => e = .returned (.tuple #[.string b3, .int .i64 0]) ∧ Below A w w' := by
 have e17 : (p3 == 17) = true := by rw [h17]; rfl
 have H17 := Lib.hid h17
 clear h17
 subst hn
 have hAe := Lib.hid hA
 clear hA
 have tt := blk4 (World.alloc_heap_new w (.cells #[.int .u32 src, .int .u32 dst, .int .i64 sp, .int .i64 dp] 27))
 obtain ⟨t0, t1, t2, t3⟩ := tt
 go_enter Tryz.func10, Tryz.ntmps10
 go_wp2_with (fail)
 clear t0 t1 t2 t3
 refine (HO _).mono ?_
 rintro e w1 ⟨g, rfl, hg, hG, hb⟩
 have hT : w1.heap[w.heap.size]? = some (.cells #[.int .u32 src, .int .u32 dst, .int .i64 sp, .int .i64 dp] 27 (0, 0)) := pt_step (World.alloc_heap_new w _) hb
 have hB := below_step (below_alloc (Below.refl _ _) _) hb
 have hAg : w.heap.size < g := by rw [World.size_alloc] at hg; omega
 clear hb hg
 rw [hAe.out] at hT hB hAg ⊢
 have hgH : g < w1.heap.size := pt_lt hG
 have hAH : A < w1.heap.size := by omega
 have hP0 := World.alloc_heap_new w1 (.cells (rr14 p0 p1 p2 p3 p4 p5 p6 p7 p8 p9 p10 p11 p12 p13) 51)
 have hT0 := pt_alloc (.cells (rr14 p0 p1 p2 p3 p4 p5 p6 p7 p8 p9 p10 p11 p12 p13) 51) hT
 have hI0 : IsS63 w (w1.alloc (.cells (rr14 p0 p1 p2 p3 p4 p5 p6 p7 p8 p9 p10 p11 p12 p13) 51)) g b0 := ⟨pt_alloc _ hG, by rw [hAe.out]; omega⟩
 have hB0 : Below A w (w1.alloc (.cells (rr14 p0 p1 p2 p3 p4 p5 p6 p7 p8 p9 p10 p11 p12 p13) 51)) := Below.alloc hB (by omega) _
 have t_ := blk4 hT
 have HQ := Lib.hid (And.intro hT0 (And.intro hP0 (And.intro hI0 hB0)))
 clear hT hG hB hT0 hP0 hI0 hB0
 go_wp2_with (fail)
 obtain ⟨hT0, hP0, hI0, hB0⟩ := HQ.out
 clear HQ t_
 generalize w1.heap.size = H at *
 generalize w1.alloc (.cells (rr14 p0 p1 p2 p3 p4 p5 p6 p7 p8 p9 p10 p11 p12 p13) 51) = v0 at hT0 hP0 hI0 hB0 ⊢
 clear w1
 refine (patch_buffer_outer.calls g _ p1 src dst _ w _ hI0 (by rw [hAe.out]; exact hB0) E1).mono ?_
 rintro e v1 ⟨rfl, hI1, hb, hk⟩
 rw [hAe.out] at hb
 have hT1 := pt_keep hT0 hk (by omega)
 have hP1 := pt_keep hP0 hk (by omega)
 have hB1 := hb
 clear hb hk hT0 hP0 hI0 hB0
 have q1 := (blk_cell hP1 1).trans (show _ = some (.int .i64 p1) from rfl)
 have t2 := (blk_cell hT1 2).trans (show _ = some (.int .i64 sp) from rfl)
 have HQ := Lib.hid (And.intro hT1 (And.intro hP1 (And.intro hI1 hB1)))
 clear hT1 hP1 hI1 hB1
 go_wp2_with (fail)
 obtain ⟨hT1, hP1, hI1, hB1⟩ := HQ.out
 clear HQ
 clear q1 t2
 refine (patch_buffer_put.calls g _ p1 2 sp _ w _ hI1 (by rw [hAe.out]; exact hB1) E2).mono ?_
 rintro e v2 ⟨rfl, hI2, hb, hk⟩
 rw [hAe.out] at hb
 have hT2 := pt_keep hT1 hk (by omega)
 have hP2 := pt_keep hP1 hk (by omega)
 have hB2 := hb
 clear hb hk hT1 hP1 hI1 hB1
 have q1 := (blk_cell hP2 1).trans (show _ = some (.int .i64 p1) from rfl)
 have t3 := (blk_cell hT2 3).trans (show _ = some (.int .i64 dp) from rfl)
 have HQ := Lib.hid (And.intro hT2 (And.intro hP2 (And.intro hI2 hB2)))
 clear hT2 hP2 hI2 hB2
 go_wp2_with (fail)
 obtain ⟨hT2, hP2, hI2, hB2⟩ := HQ.out
 clear HQ
 clear q1 t3
 refine (patch_buffer_put.calls g _ (p1 + 2) 2 dp _ w _ hI2 (by rw [hAe.out]; exact hB2) E3).mono ?_
 rintro e v3 ⟨rfl, hI3, hb, hk⟩
 rw [hAe.out] at hb
 have hT3 := pt_keep hT2 hk (by omega)
 have hP3 := pt_keep hP2 hk (by omega)
 have hB3 := hb
 clear hb hk hT2 hP2 hI2 hB2
 have q3 := (blk_cell hP3 3).trans (show _ = some (.int .i64 p3) from rfl)
 have HQ := Lib.hid (And.intro hT3 (And.intro hP3 (And.intro hI3 hB3)))
 clear hT3 hP3 hI3 hB3
 go_wp2_with (fail)
 obtain ⟨hT3, hP3, hI3, hB3⟩ := HQ.out
 clear HQ
 clear q3
 refine (HPl _).mono ?_
 rintro e v4 ⟨rfl, hb⟩
 have hT4 := pt_step hT3 hb
 have hP4 := pt_step hP3 hb
 have hI4 := hI3.below hb
 have hB4 := pt_below hB3 (by have := pt_lt hT3; omega) hb
 clear hb hT3 hP3 hI3 hB3
 have q3 := (blk_cell hP4 3).trans (show _ = some (.int .i64 p3) from rfl)
 have q1 := (blk_cell hP4 1).trans (show _ = some (.int .i64 p1) from rfl)
 have HQ := Lib.hid (And.intro hT4 (And.intro hP4 (And.intro hI4 hB4)))
 clear hT4 hP4 hI4 hB4
 go_wp2_with (fail)
 obtain ⟨hT4, hP4, hI4, hB4⟩ := HQ.out
 clear HQ
 clear q3 q1
 refine (patch_buffer_get.calls g _ (p1 + pl) 2 _ _ w _ hI4 (by rw [hAe.out]; exact hB4) E4).mono ?_
 rintro e v5 ⟨rfl, hI5, hb, hk⟩
 rw [hAe.out] at hb
 have hT5 := pt_keep hT4 hk (by omega)
 have hP5 := pt_keep hP4 hk (by omega)
 have hB5 := hb
 clear hb hk hT4 hP4 hI4 hB4
 have s0 := (blk_cell hI5.1 0).trans (show _ = some (.string b3) from rfl)
 have HQ := Lib.hid (And.intro hT5 (And.intro hP5 (And.intro hI5 hB5)))
 clear hT5 hP5 hI5 hB5
 go_wp2_with (fail)
 obtain ⟨hT5, hP5, hI5, hB5⟩ := HQ.out
 clear HQ
 go_ret2
 exact ⟨rfl, hB5⟩
set_option maxRecDepth 100000 in
set_option maxHeartbeats 8000000 in
theorem pt_plain_full (s : ByteArray) (w : World) (A : Nat) (hA : w.heap.size = A) (src dst sp dp : Int) (p0 p1 p2 p3 p4 p5 p6 p7 p8 p9 p10 p11 p12 p13 : Int) (b0 b1 b2 b3 : ByteArray) (HO : ∀ W, Calls Tryz.prog 14 #[.string s, .int .i64 1, .agg #[.int .u32 src, .int .u32 dst, .int .i64 sp, .int .i64 dp]] W fun e w' => ∃ g, e = .returned (.tuple #[.agg #[.int .i64 p0, .int .i64 p1, .int .i64 p2, .int .i64 p3, .int .u32 p4, .int .u32 p5, .int .i64 p6, .int .i64 p7, .int .i64 p8, .int .i64 p9, .int .u32 p10, .int .u32 p11, .int .i64 p12, .int .i64 p13], .pointer (some ⟨g, 0, none⟩), .int .i64 0]) ∧ W.heap.size ≤ g ∧ w'.heap[g]? = some (.cells #[.string b0] 63 (0, 0)) ∧ Below W.heap.size W w') (E1 : patch_buffer_outer.f b0 p1 src dst = some b1) (E2 : patch_buffer_put.f b1 p1 2 sp = some b2) (E3 : patch_buffer_put.f b2 (p1 + 2) 2 dp = some b3) (pl : Int) (pok : Bool) (HPl : ∀ W, Calls Tryz.prog 20 #[.int .i64 p3] W fun e w' => e = .returned (.tuple #[.int .i64 pl, .bool pok]) ∧ Below W.heap.size W w') (hw1 : wrap64 (p1 + 2) = p1 + 2) (fi : ByteArray) (fok : Bool) (h0 : 0 ≤ p1) (h1 : p1 ≤ b3.size) (hsz : b3.size ≤ 1000000) (hfz : fi.size ≤ 1000000) (HF : ∀ W, Calls Tryz.prog 32 #[.int .i64 p3, .int .u32 src, .int .u32 dst, .string (b3.extract p1.toNat b3.size)] W fun e w' => e = .returned (.tuple #[.string fi, .bool fok]) ∧ Below W.heap.size W w') (h17 : p3 ≠ 17) :
  Calls Tryz.prog 10 #[.string s, .agg #[.int .u32 src, .int .u32 dst, .int .i64 sp, .int .i64 dp]] w fun e w' => e = .returned (.tuple #[.string (b3.extract 0 p1.toNat ++ fi), .int .i64 0]) ∧ Below A w w' := by
 have e17 : (p3 == 17) = false := by simpa using h17
 have hAe := Lib.hid hA
 clear hA
 have tt := blk4 (World.alloc_heap_new w (.cells #[.int .u32 src, .int .u32 dst, .int .i64 sp, .int .i64 dp] 27))
 obtain ⟨t0, t1, t2, t3⟩ := tt
 go_enter Tryz.func10, Tryz.ntmps10
 go_wp2_with (fail)
 clear t0 t1 t2 t3
 refine (HO _).mono ?_
 rintro e w1 ⟨g, rfl, hg, hG, hb⟩
 have hT : w1.heap[w.heap.size]? = some (.cells #[.int .u32 src, .int .u32 dst, .int .i64 sp, .int .i64 dp] 27 (0, 0)) := pt_step (World.alloc_heap_new w _) hb
 have hB := below_step (below_alloc (Below.refl _ _) _) hb
 have hAg : w.heap.size < g := by rw [World.size_alloc] at hg; omega
 clear hb hg
 rw [hAe.out] at hT hB hAg ⊢
 have hgH : g < w1.heap.size := pt_lt hG
 have hAH : A < w1.heap.size := by omega
 have hP0 := World.alloc_heap_new w1 (.cells (rr14 p0 p1 p2 p3 p4 p5 p6 p7 p8 p9 p10 p11 p12 p13) 51)
 have hT0 := pt_alloc (.cells (rr14 p0 p1 p2 p3 p4 p5 p6 p7 p8 p9 p10 p11 p12 p13) 51) hT
 have hI0 : IsS63 w (w1.alloc (.cells (rr14 p0 p1 p2 p3 p4 p5 p6 p7 p8 p9 p10 p11 p12 p13) 51)) g b0 := ⟨pt_alloc _ hG, by rw [hAe.out]; omega⟩
 have hB0 : Below A w (w1.alloc (.cells (rr14 p0 p1 p2 p3 p4 p5 p6 p7 p8 p9 p10 p11 p12 p13) 51)) := Below.alloc hB (by omega) _
 have t_ := blk4 hT
 have HQ := Lib.hid (And.intro hT0 (And.intro hP0 (And.intro hI0 hB0)))
 clear hT hG hB hT0 hP0 hI0 hB0
 go_wp2_with (fail)
 obtain ⟨hT0, hP0, hI0, hB0⟩ := HQ.out
 clear HQ t_
 generalize w1.heap.size = H at *
 generalize w1.alloc (.cells (rr14 p0 p1 p2 p3 p4 p5 p6 p7 p8 p9 p10 p11 p12 p13) 51) = v0 at hT0 hP0 hI0 hB0 ⊢
 clear w1
 refine (patch_buffer_outer.calls g _ p1 src dst _ w _ hI0 (by rw [hAe.out]; exact hB0) E1).mono ?_
 rintro e v1 ⟨rfl, hI1, hb, hk⟩
 rw [hAe.out] at hb
 have hT1 := pt_keep hT0 hk (by omega)
 have hP1 := pt_keep hP0 hk (by omega)
 have hB1 := hb
 clear hb hk hT0 hP0 hI0 hB0
 have q1 := (blk_cell hP1 1).trans (show _ = some (.int .i64 p1) from rfl)
 have t2 := (blk_cell hT1 2).trans (show _ = some (.int .i64 sp) from rfl)
 have HQ := Lib.hid (And.intro hT1 (And.intro hP1 (And.intro hI1 hB1)))
 clear hT1 hP1 hI1 hB1
 go_wp2_with (fail)
 obtain ⟨hT1, hP1, hI1, hB1⟩ := HQ.out
 clear HQ
 clear q1 t2
 refine (patch_buffer_put.calls g _ p1 2 sp _ w _ hI1 (by rw [hAe.out]; exact hB1) E2).mono ?_
 rintro e v2 ⟨rfl, hI2, hb, hk⟩
 rw [hAe.out] at hb
 have hT2 := pt_keep hT1 hk (by omega)
 have hP2 := pt_keep hP1 hk (by omega)
 have hB2 := hb
 clear hb hk hT1 hP1 hI1 hB1
 have q1 := (blk_cell hP2 1).trans (show _ = some (.int .i64 p1) from rfl)
 have t3 := (blk_cell hT2 3).trans (show _ = some (.int .i64 dp) from rfl)
 have HQ := Lib.hid (And.intro hT2 (And.intro hP2 (And.intro hI2 hB2)))
 clear hT2 hP2 hI2 hB2
 go_wp2_with (fail)
 obtain ⟨hT2, hP2, hI2, hB2⟩ := HQ.out
 clear HQ
 clear q1 t3
 refine (patch_buffer_put.calls g _ (p1 + 2) 2 dp _ w _ hI2 (by rw [hAe.out]; exact hB2) E3).mono ?_
 rintro e v3 ⟨rfl, hI3, hb, hk⟩
 rw [hAe.out] at hb
 have hT3 := pt_keep hT2 hk (by omega)
 have hP3 := pt_keep hP2 hk (by omega)
 have hB3 := hb
 clear hb hk hT2 hP2 hI2 hB2
 have q3 := (blk_cell hP3 3).trans (show _ = some (.int .i64 p3) from rfl)
 have HQ := Lib.hid (And.intro hT3 (And.intro hP3 (And.intro hI3 hB3)))
 clear hT3 hP3 hI3 hB3
 go_wp2_with (fail)
 obtain ⟨hT3, hP3, hI3, hB3⟩ := HQ.out
 clear HQ
 clear q3
 refine (HPl _).mono ?_
 rintro e v4 ⟨rfl, hb⟩
 have hT4 := pt_step hT3 hb
 have hP4 := pt_step hP3 hb
 have hI4 := hI3.below hb
 have hB4 := pt_below hB3 (by have := pt_lt hT3; omega) hb
 clear hb hT3 hP3 hI3 hB3
 have q3 := (blk_cell hP4 3).trans (show _ = some (.int .i64 p3) from rfl)
 have q1 := (blk_cell hP4 1).trans (show _ = some (.int .i64 p1) from rfl)
 have HQ := Lib.hid (And.intro hT4 (And.intro hP4 (And.intro hI4 hB4)))
 clear hT4 hP4 hI4 hB4
 go_wp2_with (fail)
 obtain ⟨hT4, hP4, hI4, hB4⟩ := HQ.out
 clear HQ
 clear q3 q1
 have hRS : ∀ W : World, W.heap[A]? = some (.cells #[.int .u32 src, .int .u32 dst, .int .i64 sp, .int .i64 dp] 27 (0, 0)) → W.heap[H]? = some (.cells (rr14 p0 p1 p2 p3 p4 p5 p6 p7 p8 p9 p10 p11 p12 p13) 51 (0, 0)) → W.heap[g]? = some (.cells #[.string b3] 63 (0, 0)) → (W.cell? ⟨H, 3, none⟩ = some (.int .i64 p3) ∧ W.cell? ⟨A, 0, none⟩ = some (.int .u32 src) ∧ W.cell? ⟨A, 1, none⟩ = some (.int .u32 dst) ∧ W.cell? ⟨g, 0, none⟩ = some (.string b3) ∧ W.cell? ⟨H, 1, none⟩ = some (.int .i64 p1)) := fun W h1 h2 h3 => ⟨(blk_cell h2 3).trans rfl, (blk_cell h1 0).trans rfl, (blk_cell h1 1).trans rfl, (blk_cell h3 0).trans rfl, (blk_cell h2 1).trans rfl⟩
 have g0 : decide (0 ≤ p1) = true := decide_eq_true h0
 have g1 : decide (p1 ≤ (b3.size : Int)) = true := decide_eq_true h1
 have g2 : (0 ≤ p1) = True := eq_true h0
 have g3 : (p1 ≤ (b3.size : Int)) = True := eq_true h1
 have g4 : p1.toNat ≤ b3.size := by omega
 have g5 : 0 ≤ p1 := h0
 have g6 : p1 ≤ (b3.size : Int) := h1
 refine start_ (n := 20) (S := fun w' => w'.cell? ⟨H, 3, none⟩ = some (.int .i64 p3) ∧ w'.cell? ⟨A, 0, none⟩ = some (.int .u32 src) ∧ w'.cell? ⟨A, 1, none⟩ = some (.int .u32 dst) ∧ w'.cell? ⟨g, 0, none⟩ = some (.string b3) ∧ w'.cell? ⟨H, 1, none⟩ = some (.int .i64 p1)) (ds := []) (bm 20 0x0) (by kernel_rfl) rfl rfl (hRS _ (pt_drew hT4) (pt_drew hP4) (pt_drew hI4.1)) (fun hHeld => ?_)
 have hT := pt_drew hT4
 have hP := pt_drew hP4
 have hG := pt_drew hI4.1
 have hB := pt_below_drew hB4
 clear hT4 hP4 hI4 hB4
 generalize v4.drew = u at hT hP hG hB hHeld ⊢
 refine pk 0 69 (bm 20 0x1) ?_
 refine pk 1 70 (bm 20 0x3) ?_
 refine tk 2 71 (bm 20 0x7) hHeld ?_
 refine pk 3 72 (bm 20 0xf) ?_
 refine tk 4 73 (bm 20 0x1f) hHeld ?_
 refine pk 5 74 (bm 20 0x3f) ?_
 refine tk 6 75 (bm 20 0x7f) hHeld ?_
 refine pk 7 76 (bm 20 0xff) ?_
 refine pk 8 77 (bm 20 0x1ff) ?_
 refine pk 9 78 (bm 20 0x3ff) ?_
 refine tk 10 79 (bm 20 0x7ff) hHeld ?_
 refine pk 11 80 (bm 20 0xfff) ?_
 refine tk 12 81 (bm 20 0x1fff) hHeld ?_
 refine pk 13 82 (bm 20 0x3fff) ?_
 refine one_ (i := 14) (N := some 83) (bm 20 0x7fff) rfl rfl (by kernel_rfl) (by decide) (fun K hK => ?_)
 refine goes_ Tryz.func32 (by kernel_rfl) rfl #[.int .i64 p3, .int .u32 src, .int .u32 dst, .string (b3.extract p1.toNat b3.size)] (by rfl) rfl rfl (by (try simp only [List.map_toArray, List.map_cons, List.map_nil]); first | done | rfl) ?_
 refine (HF _).mono ?_
 rintro e u1 ⟨rfl, hb⟩
 refine ⟨_, rfl, ?_⟩
 have hT1 := pt_step hT hb
 have hP1 := pt_step hP hb
 have hG1 := pt_step hG hb
 have hB1 := pt_below hB (by have := pt_lt hT; omega) hb
 clear hb hT hP hG hB hHeld
 refine hK.out _ _ (hRS _ hT1 hP1 hG1) (fun hHeld => ?_)
 clear hK K
 refine nm 83 ?_
 refine pk 15 68 (bm 20 0xffff) ?_
 refine pk 16 84 (bm 20 0x1ffff) ?_
 refine pk 17 85 (bm 20 0x3ffff) ?_
 refine pk 18 11 (bm 20 0x7ffff) ?_
 refine pk 19 12 (bm 20 0xfffff) ?_
 refine done_ (by kernel_rfl) ?_
 clear hHeld
 go_wp2_with (fail)
 have y1 : (9223372036854775807 < (b3.extract 0 p1.toNat).size + fi.size) = False := eq_false (by rw [ByteArray.size_extract]; omega)
 have y2 : (9223372036854775807 < min p1.toNat b3.size + fi.size) = False := eq_false (by omega)
 have y3 : (9223372036854775807 < p1.toNat + fi.size) = False := eq_false (by omega)
 refine start_ (n := 11) (S := fun w' => w'.cell? ⟨g, 0, none⟩ = some (.string b3) ∧ w'.cell? ⟨H, 1, none⟩ = some (.int .i64 p1)) (ds := []) (bm 11 0x0) (by kernel_rfl) rfl rfl ⟨(blk_cell (pt_drew hG1) 0).trans rfl, (blk_cell (pt_drew hP1) 1).trans rfl⟩ (fun hHeld => ?_)
 have hB2 := pt_below_drew hB1
 clear hT1 hP1 hG1 hB1
 generalize u1.drew = u2 at hB2 hHeld ⊢
 refine pk 0 86 (bm 11 0x1) ?_
 refine pk 1 87 (bm 11 0x3) ?_
 refine pk 2 88 (bm 11 0x7) ?_
 refine tk 3 89 (bm 11 0xf) hHeld ?_
 refine pk 4 90 (bm 11 0x1f) ?_
 refine tk 5 91 (bm 11 0x3f) hHeld ?_
 refine pk 6 92 (bm 11 0x7f) ?_
 refine pk 7 93 (bm 11 0xff) ?_
 refine pk 8 94 (bm 11 0x1ff) ?_
 refine pk 9 4 (bm 11 0x3ff) ?_
 refine pk 10 5 (bm 11 0x7ff) ?_
 refine done_ (by kernel_rfl) ?_
 go_wp2_with (fail)
 go_ret2
 exact ⟨rfl, hB2⟩
set_option maxRecDepth 100000 in
set_option maxHeartbeats 8000000 in
theorem pt_plain_full17 (s : ByteArray) (w : World) (A : Nat) (hA : w.heap.size = A) (src dst sp dp : Int) (p0 p1 p2 p3 p4 p5 p6 p7 p8 p9 p10 p11 p12 p13 : Int) (b0 b1 b2 b3 : ByteArray) (HO : ∀ W, Calls Tryz.prog 14 #[.string s, .int .i64 1, .agg #[.int .u32 src, .int .u32 dst, .int .i64 sp, .int .i64 dp]] W fun e w' => ∃ g, e = .returned (.tuple #[.agg #[.int .i64 p0, .int .i64 p1, .int .i64 p2, .int .i64 p3, .int .u32 p4, .int .u32 p5, .int .i64 p6, .int .i64 p7, .int .i64 p8, .int .i64 p9, .int .u32 p10, .int .u32 p11, .int .i64 p12, .int .i64 p13], .pointer (some ⟨g, 0, none⟩), .int .i64 0]) ∧ W.heap.size ≤ g ∧ w'.heap[g]? = some (.cells #[.string b0] 63 (0, 0)) ∧ Below W.heap.size W w') (E1 : patch_buffer_outer.f b0 p1 src dst = some b1) (E2 : patch_buffer_put.f b1 p1 2 sp = some b2) (E3 : patch_buffer_put.f b2 (p1 + 2) 2 dp = some b3) (pl : Int) (pok : Bool) (HPl : ∀ W, Calls Tryz.prog 20 #[.int .i64 p3] W fun e w' => e = .returned (.tuple #[.int .i64 pl, .bool pok]) ∧ Below W.heap.size W w') (hw1 : wrap64 (p1 + 2) = p1 + 2) (n : Int) (hw2 : wrap64 (p1 + pl) = p1 + pl) (E4 : patch_buffer_get.f b3 (p1 + pl) 2 = some (n, b3)) (fi : ByteArray) (fok : Bool) (h0 : 0 ≤ p1) (h1 : p1 ≤ b3.size) (hsz : b3.size ≤ 1000000) (hfz : fi.size ≤ 1000000) (HF : ∀ W, Calls Tryz.prog 32 #[.int .i64 p3, .int .u32 src, .int .u32 dst, .string (b3.extract p1.toNat b3.size)] W fun e w' => e = .returned (.tuple #[.string fi, .bool fok]) ∧ Below W.heap.size W w') (h17 : p3 = 17) (hn : n ≠ 0) :
  Calls Tryz.prog 10 #[.string s, .agg #[.int .u32 src, .int .u32 dst, .int .i64 sp, .int .i64 dp]] w fun e w' => e = .returned (.tuple #[.string (b3.extract 0 p1.toNat ++ fi), .int .i64 0]) ∧ Below A w w' := by
 have e17 : (p3 == 17) = true := by rw [h17]; rfl
 have H17 := Lib.hid h17
 clear h17
 have en : (n == 0) = false := by simpa using hn
 clear hn
 have hAe := Lib.hid hA
 clear hA
 have tt := blk4 (World.alloc_heap_new w (.cells #[.int .u32 src, .int .u32 dst, .int .i64 sp, .int .i64 dp] 27))
 obtain ⟨t0, t1, t2, t3⟩ := tt
 go_enter Tryz.func10, Tryz.ntmps10
 go_wp2_with (fail)
 clear t0 t1 t2 t3
 refine (HO _).mono ?_
 rintro e w1 ⟨g, rfl, hg, hG, hb⟩
 have hT : w1.heap[w.heap.size]? = some (.cells #[.int .u32 src, .int .u32 dst, .int .i64 sp, .int .i64 dp] 27 (0, 0)) := pt_step (World.alloc_heap_new w _) hb
 have hB := below_step (below_alloc (Below.refl _ _) _) hb
 have hAg : w.heap.size < g := by rw [World.size_alloc] at hg; omega
 clear hb hg
 rw [hAe.out] at hT hB hAg ⊢
 have hgH : g < w1.heap.size := pt_lt hG
 have hAH : A < w1.heap.size := by omega
 have hP0 := World.alloc_heap_new w1 (.cells (rr14 p0 p1 p2 p3 p4 p5 p6 p7 p8 p9 p10 p11 p12 p13) 51)
 have hT0 := pt_alloc (.cells (rr14 p0 p1 p2 p3 p4 p5 p6 p7 p8 p9 p10 p11 p12 p13) 51) hT
 have hI0 : IsS63 w (w1.alloc (.cells (rr14 p0 p1 p2 p3 p4 p5 p6 p7 p8 p9 p10 p11 p12 p13) 51)) g b0 := ⟨pt_alloc _ hG, by rw [hAe.out]; omega⟩
 have hB0 : Below A w (w1.alloc (.cells (rr14 p0 p1 p2 p3 p4 p5 p6 p7 p8 p9 p10 p11 p12 p13) 51)) := Below.alloc hB (by omega) _
 have t_ := blk4 hT
 have HQ := Lib.hid (And.intro hT0 (And.intro hP0 (And.intro hI0 hB0)))
 clear hT hG hB hT0 hP0 hI0 hB0
 go_wp2_with (fail)
 obtain ⟨hT0, hP0, hI0, hB0⟩ := HQ.out
 clear HQ t_
 generalize w1.heap.size = H at *
 generalize w1.alloc (.cells (rr14 p0 p1 p2 p3 p4 p5 p6 p7 p8 p9 p10 p11 p12 p13) 51) = v0 at hT0 hP0 hI0 hB0 ⊢
 clear w1
 refine (patch_buffer_outer.calls g _ p1 src dst _ w _ hI0 (by rw [hAe.out]; exact hB0) E1).mono ?_
 rintro e v1 ⟨rfl, hI1, hb, hk⟩
 rw [hAe.out] at hb
 have hT1 := pt_keep hT0 hk (by omega)
 have hP1 := pt_keep hP0 hk (by omega)
 have hB1 := hb
 clear hb hk hT0 hP0 hI0 hB0
 have q1 := (blk_cell hP1 1).trans (show _ = some (.int .i64 p1) from rfl)
 have t2 := (blk_cell hT1 2).trans (show _ = some (.int .i64 sp) from rfl)
 have HQ := Lib.hid (And.intro hT1 (And.intro hP1 (And.intro hI1 hB1)))
 clear hT1 hP1 hI1 hB1
 go_wp2_with (fail)
 obtain ⟨hT1, hP1, hI1, hB1⟩ := HQ.out
 clear HQ
 clear q1 t2
 refine (patch_buffer_put.calls g _ p1 2 sp _ w _ hI1 (by rw [hAe.out]; exact hB1) E2).mono ?_
 rintro e v2 ⟨rfl, hI2, hb, hk⟩
 rw [hAe.out] at hb
 have hT2 := pt_keep hT1 hk (by omega)
 have hP2 := pt_keep hP1 hk (by omega)
 have hB2 := hb
 clear hb hk hT1 hP1 hI1 hB1
 have q1 := (blk_cell hP2 1).trans (show _ = some (.int .i64 p1) from rfl)
 have t3 := (blk_cell hT2 3).trans (show _ = some (.int .i64 dp) from rfl)
 have HQ := Lib.hid (And.intro hT2 (And.intro hP2 (And.intro hI2 hB2)))
 clear hT2 hP2 hI2 hB2
 go_wp2_with (fail)
 obtain ⟨hT2, hP2, hI2, hB2⟩ := HQ.out
 clear HQ
 clear q1 t3
 refine (patch_buffer_put.calls g _ (p1 + 2) 2 dp _ w _ hI2 (by rw [hAe.out]; exact hB2) E3).mono ?_
 rintro e v3 ⟨rfl, hI3, hb, hk⟩
 rw [hAe.out] at hb
 have hT3 := pt_keep hT2 hk (by omega)
 have hP3 := pt_keep hP2 hk (by omega)
 have hB3 := hb
 clear hb hk hT2 hP2 hI2 hB2
 have q3 := (blk_cell hP3 3).trans (show _ = some (.int .i64 p3) from rfl)
 have HQ := Lib.hid (And.intro hT3 (And.intro hP3 (And.intro hI3 hB3)))
 clear hT3 hP3 hI3 hB3
 go_wp2_with (fail)
 obtain ⟨hT3, hP3, hI3, hB3⟩ := HQ.out
 clear HQ
 clear q3
 refine (HPl _).mono ?_
 rintro e v4 ⟨rfl, hb⟩
 have hT4 := pt_step hT3 hb
 have hP4 := pt_step hP3 hb
 have hI4 := hI3.below hb
 have hB4 := pt_below hB3 (by have := pt_lt hT3; omega) hb
 clear hb hT3 hP3 hI3 hB3
 have q3 := (blk_cell hP4 3).trans (show _ = some (.int .i64 p3) from rfl)
 have q1 := (blk_cell hP4 1).trans (show _ = some (.int .i64 p1) from rfl)
 have HQ := Lib.hid (And.intro hT4 (And.intro hP4 (And.intro hI4 hB4)))
 clear hT4 hP4 hI4 hB4
 go_wp2_with (fail)
 obtain ⟨hT4, hP4, hI4, hB4⟩ := HQ.out
 clear HQ
 clear q3 q1
 refine (patch_buffer_get.calls g _ (p1 + pl) 2 _ _ w _ hI4 (by rw [hAe.out]; exact hB4) E4).mono ?_
 rintro e v5 ⟨rfl, hI5, hb, hk⟩
 rw [hAe.out] at hb
 have hT5 := pt_keep hT4 hk (by omega)
 have hP5 := pt_keep hP4 hk (by omega)
 have hB5 := hb
 clear hb hk hT4 hP4 hI4 hB4
 have HQ := Lib.hid (And.intro hT5 (And.intro hP5 (And.intro hI5 hB5)))
 clear hT5 hP5 hI5 hB5
 go_wp2_with (fail)
 obtain ⟨hT5, hP5, hI5, hB5⟩ := HQ.out
 clear HQ
 have hRS : ∀ W : World, W.heap[A]? = some (.cells #[.int .u32 src, .int .u32 dst, .int .i64 sp, .int .i64 dp] 27 (0, 0)) → W.heap[H]? = some (.cells (rr14 p0 p1 p2 p3 p4 p5 p6 p7 p8 p9 p10 p11 p12 p13) 51 (0, 0)) → W.heap[g]? = some (.cells #[.string b3] 63 (0, 0)) → (W.cell? ⟨H, 3, none⟩ = some (.int .i64 p3) ∧ W.cell? ⟨A, 0, none⟩ = some (.int .u32 src) ∧ W.cell? ⟨A, 1, none⟩ = some (.int .u32 dst) ∧ W.cell? ⟨g, 0, none⟩ = some (.string b3) ∧ W.cell? ⟨H, 1, none⟩ = some (.int .i64 p1)) := fun W h1 h2 h3 => ⟨(blk_cell h2 3).trans rfl, (blk_cell h1 0).trans rfl, (blk_cell h1 1).trans rfl, (blk_cell h3 0).trans rfl, (blk_cell h2 1).trans rfl⟩
 have g0 : decide (0 ≤ p1) = true := decide_eq_true h0
 have g1 : decide (p1 ≤ (b3.size : Int)) = true := decide_eq_true h1
 have g2 : (0 ≤ p1) = True := eq_true h0
 have g3 : (p1 ≤ (b3.size : Int)) = True := eq_true h1
 have g4 : p1.toNat ≤ b3.size := by omega
 have g5 : 0 ≤ p1 := h0
 have g6 : p1 ≤ (b3.size : Int) := h1
 refine start_ (n := 20) (S := fun w' => w'.cell? ⟨H, 3, none⟩ = some (.int .i64 p3) ∧ w'.cell? ⟨A, 0, none⟩ = some (.int .u32 src) ∧ w'.cell? ⟨A, 1, none⟩ = some (.int .u32 dst) ∧ w'.cell? ⟨g, 0, none⟩ = some (.string b3) ∧ w'.cell? ⟨H, 1, none⟩ = some (.int .i64 p1)) (ds := []) (bm 20 0x0) (by kernel_rfl) rfl rfl (hRS _ (pt_drew hT5) (pt_drew hP5) (pt_drew hI5.1)) (fun hHeld => ?_)
 have hT := pt_drew hT5
 have hP := pt_drew hP5
 have hG := pt_drew hI5.1
 have hB := pt_below_drew hB5
 clear hT5 hP5 hI5 hB5
 generalize v5.drew = u at hT hP hG hB hHeld ⊢
 refine pk 0 69 (bm 20 0x1) ?_
 refine pk 1 70 (bm 20 0x3) ?_
 refine tk 2 71 (bm 20 0x7) hHeld ?_
 refine pk 3 72 (bm 20 0xf) ?_
 refine tk 4 73 (bm 20 0x1f) hHeld ?_
 refine pk 5 74 (bm 20 0x3f) ?_
 refine tk 6 75 (bm 20 0x7f) hHeld ?_
 refine pk 7 76 (bm 20 0xff) ?_
 refine pk 8 77 (bm 20 0x1ff) ?_
 refine pk 9 78 (bm 20 0x3ff) ?_
 refine tk 10 79 (bm 20 0x7ff) hHeld ?_
 refine pk 11 80 (bm 20 0xfff) ?_
 refine tk 12 81 (bm 20 0x1fff) hHeld ?_
 refine pk 13 82 (bm 20 0x3fff) ?_
 refine one_ (i := 14) (N := some 83) (bm 20 0x7fff) rfl rfl (by kernel_rfl) (by decide) (fun K hK => ?_)
 refine goes_ Tryz.func32 (by kernel_rfl) rfl #[.int .i64 p3, .int .u32 src, .int .u32 dst, .string (b3.extract p1.toNat b3.size)] (by rfl) rfl rfl (by (try simp only [List.map_toArray, List.map_cons, List.map_nil]); first | done | rfl) ?_
 refine (HF _).mono ?_
 rintro e u1 ⟨rfl, hb⟩
 refine ⟨_, rfl, ?_⟩
 have hT1 := pt_step hT hb
 have hP1 := pt_step hP hb
 have hG1 := pt_step hG hb
 have hB1 := pt_below hB (by have := pt_lt hT; omega) hb
 clear hb hT hP hG hB hHeld
 refine hK.out _ _ (hRS _ hT1 hP1 hG1) (fun hHeld => ?_)
 clear hK K
 refine nm 83 ?_
 refine pk 15 68 (bm 20 0xffff) ?_
 refine pk 16 84 (bm 20 0x1ffff) ?_
 refine pk 17 85 (bm 20 0x3ffff) ?_
 refine pk 18 11 (bm 20 0x7ffff) ?_
 refine pk 19 12 (bm 20 0xfffff) ?_
 refine done_ (by kernel_rfl) ?_
 clear hHeld
 go_wp2_with (fail)
 have y1 : (9223372036854775807 < (b3.extract 0 p1.toNat).size + fi.size) = False := eq_false (by rw [ByteArray.size_extract]; omega)
 have y2 : (9223372036854775807 < min p1.toNat b3.size + fi.size) = False := eq_false (by omega)
 have y3 : (9223372036854775807 < p1.toNat + fi.size) = False := eq_false (by omega)
 refine start_ (n := 11) (S := fun w' => w'.cell? ⟨g, 0, none⟩ = some (.string b3) ∧ w'.cell? ⟨H, 1, none⟩ = some (.int .i64 p1)) (ds := []) (bm 11 0x0) (by kernel_rfl) rfl rfl ⟨(blk_cell (pt_drew hG1) 0).trans rfl, (blk_cell (pt_drew hP1) 1).trans rfl⟩ (fun hHeld => ?_)
 have hB2 := pt_below_drew hB1
 clear hT1 hP1 hG1 hB1
 generalize u1.drew = u2 at hB2 hHeld ⊢
 refine pk 0 86 (bm 11 0x1) ?_
 refine pk 1 87 (bm 11 0x3) ?_
 refine pk 2 88 (bm 11 0x7) ?_
 refine tk 3 89 (bm 11 0xf) hHeld ?_
 refine pk 4 90 (bm 11 0x1f) ?_
 refine tk 5 91 (bm 11 0x3f) hHeld ?_
 refine pk 6 92 (bm 11 0x7f) ?_
 refine pk 7 93 (bm 11 0xff) ?_
 refine pk 8 94 (bm 11 0x1ff) ?_
 refine pk 9 4 (bm 11 0x3ff) ?_
 refine pk 10 5 (bm 11 0x7ff) ?_
 refine done_ (by kernel_rfl) ?_
 go_wp2_with (fail)
 go_ret2
 exact ⟨rfl, hB2⟩
theorem pt_one {s : List UInt8} (he : (pkt s).e = 0) (hk : (pkt s).kind = 1) : 20 ≤ (pkt s).at_ ∧ (pkt s).at_ ≤ (pkt s).total ∧ (pkt s).total ≤ s.length ∧ (pkt s).total ≤ 1500 ∧ ((pkt s).proto = 6 ∨ (pkt s).proto = 17) := by
 unfold pkt pktOf at he hk ⊢
 by_cases h : (ip4Parse s).e = 0
 rotate_left
 ·rw [if_neg h] at hk; exact absurd hk (by simp [pktNone])
 rw [if_pos h] at he hk ⊢
 have hz : (ip4Sizes s).2.2 = 0 := Classical.byContradiction fun hn => by
  unfold ip4Parse at h
  rw [if_neg hn] at h
  exact hn h
 obtain ⟨_, _, a1, _, a2, a3, a4, _⟩ := ip4Sizes_ok hz
 by_cases hf : (ip4Parse s).flags % 2 = 0 ∧ (ip4Parse s).frag = 0
 ·rw [if_pos hf] at he hk ⊢
  by_cases h1 : (ip4Parse s).proto = 1
  ·rw [if_pos h1] at hk
   exfalso
   unfold pktAbout pktQuoted at hk
   revert hk
   (repeat' split) <;> (intro hk; first | exact absurd hk (by decide) | (simp [pktNone] at hk))
  rw [if_neg h1] at he hk ⊢
  by_cases hp : (ip4Parse s).proto = 6 ∨ (ip4Parse s).proto = 17
  ·rw [if_pos hp] at he hk ⊢
   unfold pktPlain at he hk ⊢
   by_cases hq : plainErr (ip4Parse s) = 0
   ·rw [if_pos hq]; exact ⟨a1, a2, a3, a4, hp⟩
   rw [if_neg hq] at hk; exact absurd hk (by simp [pktNone])
  rw [if_neg hp] at hk; exact absurd hk (by simp [pktNone])
 rw [if_neg hf] at hk; exact absurd hk (by simp [pktNone])
theorem pt_pfill (p a b : Int) (s : List UInt8) : (Sp.pfill p a b s).1.length ≤ s.length := by
 unfold Sp.pfill
 split
 ·have h := pt_len s (Sp.place p).1 2 (Sp.pcheck p a b s).1
  unfold Sp.bput at h
  by_cases g : (Sp.set s (Sp.place p).1 2 (Sp.pcheck p a b s).1).2 = true
  ·rw [if_pos g] at h; omega
  have : (Sp.set s (Sp.place p).1 2 (Sp.pcheck p a b s).1).1 = [] := by
   revert g; unfold Sp.set
   (repeat' split) <;> simp
  rw [this]; simp
 simp
theorem pt_ready {s : List UInt8} {k sp dp : Int} (h : Sp.ready s k sp dp = 0) : (Sp.pkt s).e = 0 ∧ (Sp.pkt s).kind = k := by
 unfold Sp.ready at h
 by_cases he : (Sp.pkt s).e = 0
 ·rw [if_pos he] at h
  by_cases hk : (Sp.pkt s).kind = k ∧ Sp.fits 2 sp = true ∧ Sp.fits 2 dp = true
  ·exact ⟨he, hk.1⟩
  rw [if_neg hk] at h; exact absurd h (by decide)
 rw [if_neg he] at h; exact absurd h he
theorem pt_outer_len (s : List UInt8) (n x y : Int) : (Sp.outer s n x y).length = s.length := by
 unfold Sp.outer Sp.recheck Sp.turnEnds; simp only [pt_len]
def patch_Plain.f (a0 : ByteArray) (a1 a2 a3 a4 : Int) : Option (ByteArray × Int) := if a0.size ≤ 140737488355328 ∧ (0 ≤ a1 ∧ a1 ≤ 4294967295) ∧ (0 ≤ a2 ∧ a2 ≤ 4294967295) then some (lb (Sp.patchPlain (bl a0) a1 a2 a3 a4).1, (Sp.patchPlain (bl a0) a1 a2 a3 a4).2) else none
theorem patch_Plain.calls (a0 : ByteArray) (a1 a2 a3 a4 : Int) (r1 : ByteArray) (r2 : Int) (w : World) (h : patch_Plain.f a0 a1 a2 a3 a4 = some (r1, r2)) :
  Calls Tryz.prog 10 #[.string a0, .agg #[.int .u32 a1, .int .u32 a2, .int .i64 a3, .int .i64 a4]] w fun e w' => e = .returned (.tuple #[.string r1, .int .i64 r2]) ∧ Below w.heap.size w w' := by
 unfold patch_Plain.f at h
 by_cases hd : a0.size ≤ 140737488355328 ∧ (0 ≤ a1 ∧ a1 ≤ 4294967295) ∧ (0 ≤ a2 ∧ a2 ≤ 4294967295)
 rotate_left
 ·rw [if_neg hd] at h; cases h
 rw [if_pos hd] at h
 obtain ⟨hs, hx, hy⟩ := hd
 simp only [Option.some.injEq, Prod.mk.injEq] at h
 obtain ⟨rfl, rfl⟩ := h
 unfold Sp.patchPlain
 by_cases hr : Sp.ready (bl a0) 1 a3 a4 = 0
 rotate_left
 ·rw [if_neg hr]
  exact pt_plain_bad a0 w _ rfl a1 a2 a3 a4 _ _ _ _ _ _ _ _ _ _ _ _ _ _ _ hr (fun W => pt_open_no hs 1 a1 a2 a3 a4 W hr)
 rw [if_pos hr]
 obtain ⟨he, hk⟩ := pt_ready hr
 obtain ⟨n20, nt, tl, t15, hp⟩ := pt_one he hk
 rw [bl_length] at tl
 have HO := fun W => pt_open_yes hs 1 a1 a2 a3 a4 W hr (by omega) tl
 obtain ⟨b0, hb0⟩ : ∃ b0, a0.extract 0 (Sp.pkt (bl a0)).total.toNat = b0 := ⟨_, rfl⟩
 have l0 : bl b0 = (bl a0).take (Sp.pkt (bl a0)).total.toNat := by rw [← hb0, bl_extract, List.drop_zero]
 rw [hb0] at HO
 have z0 : (b0.size : Int) = (Sp.pkt (bl a0)).total := by rw [← bl_length, l0, List.length_take, bl_length]; omega
 unfold Sp.turnPlain
 rw [← l0]
 generalize (Sp.pkt (bl a0)).total = tt at *
 generalize (Sp.pkt (bl a0)).at_ = n at *
 generalize (Sp.pkt (bl a0)).proto = pr at *
 have E1 := patch_buffer_outer_eq (s := b0) (n := n) (x := a1) (y := a2) (by omega) (by omega) (by omega) hx hy
 obtain ⟨b1, hb1⟩ : ∃ b1, Sp.outer (bl b0) n a1 a2 = b1 := ⟨_, rfl⟩
 have z1 : b1.length = b0.size := by rw [← hb1, pt_outer_len, bl_length]
 rw [hb1] at E1 ⊢
 have E2 := patch_buffer_put_eq (s := lb b1) n 2 a3 (by rw [lb_size]; omega)
 rw [bl_lb] at E2
 obtain ⟨b2, hb2⟩ : ∃ b2, Sp.bput b1 n 2 a3 = b2 := ⟨_, rfl⟩
 have z2 : b2.length = b0.size := by rw [← hb2, pt_len]; exact z1
 rw [hb2] at E2 ⊢
 have E3 := patch_buffer_put_eq (s := lb b2) (n + 2) 2 a4 (by rw [lb_size]; omega)
 rw [bl_lb] at E3
 obtain ⟨b3, hb3⟩ : ∃ b3, Sp.bput b2 (n + 2) 2 a4 = b3 := ⟨_, rfl⟩
 have z3 : b3.length = b0.size := by rw [← hb3, pt_len]; exact z2
 rw [hb3] at E3 ⊢
 have HPl := fun W => pseudo_Place.calls pr _ _ W (pseudo_Place_eq (by omega) (by omega))
 have hpl : 0 ≤ (Sp.place pr).1 ∧ (Sp.place pr).1 ≤ 16 := by rcases hp with rfl | rfl <;> decide
 have hw1 : wrap64 (n + 2) = n + 2 := by unfold wrap64; omega
 have hw2 : wrap64 (n + (Sp.place pr).1) = n + (Sp.place pr).1 := by unfold wrap64; omega
 have E4 := patch_buffer_get_eq (s := lb b3) (n + (Sp.place pr).1) 2 (by rw [lb_size]; omega)
 rw [bl_lb] at E4
 have lx : bl ((lb b3).extract n.toNat (lb b3).size) = b3.drop n.toNat := by rw [bl_extract, bl_lb, lb_size, List.take_length]
 have HF := fun W => pseudo_Fill.calls pr a1 a2 ((lb b3).extract n.toNat (lb b3).size) _ _ W (pseudo_Fill_eq (by omega) hx hy (by rw [ByteArray.size_extract, lb_size]; omega))
 rw [lx] at HF
 have hfl := pt_pfill pr a1 a2 (b3.drop n.toNat)
 rw [List.length_drop] at hfl
 have hres : lb (b3.take n.toNat ++ (Sp.pfill pr a1 a2 (b3.drop n.toNat)).1) = (lb b3).extract 0 n.toNat ++ lb (Sp.pfill pr a1 a2 (b3.drop n.toNat)).1 := bl_inj (by rw [bl_lb, bl_append, bl_extract, bl_lb, bl_lb, List.drop_zero])
 unfold Sp.fillPlain
 by_cases h17 : pr = 17
 ·by_cases hn : (Sp.get b3 (n + (Sp.place pr).1) 2).1 = 0
  ·rw [if_pos ⟨h17, hn⟩]
   exact pt_plain_early a0 w _ rfl a1 a2 a3 a4 _ _ _ _ _ _ _ _ _ _ _ _ _ _ b0 _ _ _ HO E1 E2 E3 _ _ HPl hw1 _ hw2 E4 h17 hn
  rw [if_neg (fun g => hn g.2), hres]
  exact pt_plain_full17 a0 w _ rfl a1 a2 a3 a4 _ _ _ _ _ _ _ _ _ _ _ _ _ _ b0 _ _ _ HO E1 E2 E3 _ _ HPl hw1 _ hw2 E4 _ _ (by omega) (by rw [lb_size]; omega) (by rw [lb_size]; omega) (by rw [lb_size]; omega) HF h17 hn
 rw [if_neg (fun g => h17 g.1), hres]
 exact pt_plain_full a0 w _ rfl a1 a2 a3 a4 _ _ _ _ _ _ _ _ _ _ _ _ _ _ b0 _ _ _ HO E1 E2 E3 _ _ HPl hw1 _ _ (by omega) (by rw [lb_size]; omega) (by rw [lb_size]; omega) (by rw [lb_size]; omega) HF h17
/-! ### patch_About: function 7 -/
theorem goesC_ {P : Program} {ops : Array Oper} {Q : Exit → Act → World → Prop} {oi : Oper} {N : Option Tmp} {a : Act} {w : World} {K : Act → World → Prop} {f : FuncId} {fn : Func} {ops1 : Array Operand} {ts : Array TypeId} (hf : P.funcs[f]? = some fn) (hname : (fn.name == "runtime.NumGoroutine") = false) (hb : fn.body.isSome = true) (args caps : Array Value)
  (hw : Region.wanted oi (yielded ops a.tmps) = true) (hN : oi.dst = N) (t : Tmp) (hop : oi.op = .call { callee := .value (.tmp t), args := ops1, argTypes := ts }) (hv : a.eval (.tmp t) = .func (.func f) #[] caps) (hargs : ops1.map a.eval = args)
  (h : Calls P f (args ++ caps) w fun e w' => ∃ v, e = .returned v ∧ K (a.put N v) w') : if Region.wanted oi (yielded ops a.tmps) = true then Oper.wp P oi a w K Q else K (a.put N undef) w := by
 refine call_ f (args ++ caps) hw hN ?_ h
 have he := enters_ hf hname hb (args ++ caps) w
 unfold execOp
 simp [hop, resolve, Deferred.ofValue, invoke, hv, hargs, he]
set_option maxRecDepth 100000 in
set_option maxHeartbeats 8000000 in
theorem pt_moved (w : World) {O A : Nat} {p3 p4 p5 p6 p7 src dst sp dp : Int} (c m n : Int) (hO : w.heap[O]? = some (.cells #[.int .i64 p3, .int .u32 p4, .int .u32 p5, .int .i64 p6, .int .i64 p7] 49 (0, 0))) (hT : w.heap[A]? = some (.cells #[.int .u32 src, .int .u32 dst, .int .i64 sp, .int .i64 dp] 27 (0, 0))) (H1 : ∀ W, Calls Tryz.prog 16 #[.int .u16 (IntKind.u16.wrap c), .int .u32 p4, .int .u32 src] W fun e w' => e = .returned (.int .u16 m) ∧ Below W.heap.size W w') (H2 : ∀ W, Calls Tryz.prog 16 #[.int .u16 m, .int .u32 p5, .int .u32 dst] W fun e w' => e = .returned (.int .u16 n) ∧ Below W.heap.size W w') :
  Calls Tryz.prog 15 #[.int .i64 c, .pointer (some ⟨O, 0, none⟩), .pointer (some ⟨A, 0, none⟩)] w fun e w' => e = .returned (.int .u16 n) ∧ Below w.heap.size w w' := by
 have hQ := Lib.hid (And.intro hO hT)
 clear hO hT
 go_enter Tryz.func15, Tryz.ntmps15
 go_wp2_with (fail)
 obtain ⟨hO, hT⟩ := hQ.out
 clear hQ
 have hRS : ∀ W : World, W.heap[O]? = some (.cells #[.int .i64 p3, .int .u32 p4, .int .u32 p5, .int .i64 p6, .int .i64 p7] 49 (0, 0)) → W.heap[A]? = some (.cells #[.int .u32 src, .int .u32 dst, .int .i64 sp, .int .i64 dp] 27 (0, 0)) → (W.cell? ⟨O, 1, none⟩ = some (.int .u32 p4) ∧ W.cell? ⟨O, 2, none⟩ = some (.int .u32 p5) ∧ W.cell? ⟨A, 0, none⟩ = some (.int .u32 src) ∧ W.cell? ⟨A, 1, none⟩ = some (.int .u32 dst)) := fun W h1 h2 => ⟨(blk_cell h1 1).trans rfl, (blk_cell h1 2).trans rfl, (blk_cell h2 0).trans rfl, (blk_cell h2 1).trans rfl⟩
 refine start_ (n := 13) (S := fun w' => w'.cell? ⟨O, 1, none⟩ = some (.int .u32 p4) ∧ w'.cell? ⟨O, 2, none⟩ = some (.int .u32 p5) ∧ w'.cell? ⟨A, 0, none⟩ = some (.int .u32 src) ∧ w'.cell? ⟨A, 1, none⟩ = some (.int .u32 dst)) (ds := []) (bm 13 0x0) (by kernel_rfl) rfl rfl (hRS _ (pt_drew hO) (pt_drew hT)) (fun hHeld => ?_)
 have hO1 := pt_drew hO
 have hT1 := pt_drew hT
 have hB1 := pt_below_drew (Below.refl w.heap.size w)
 clear hO hT
 generalize w.drew = u at hO1 hT1 hB1 hHeld ⊢
 refine pk 0 5 (bm 13 0x1) ?_
 refine pk 1 6 (bm 13 0x3) ?_
 refine pk 2 7 (bm 13 0x7) ?_
 refine tk 3 8 (bm 13 0xf) hHeld ?_
 refine pk 4 9 (bm 13 0x1f) ?_
 refine tk 5 10 (bm 13 0x3f) hHeld ?_
 refine pk 7 12 (bm 13 0xbf) ?_
 refine tk 8 13 (bm 13 0x1bf) hHeld ?_
 refine pk 9 14 (bm 13 0x3bf) ?_
 refine tk 10 15 (bm 13 0x7bf) hHeld ?_
 refine one_ (i := 6) (N := some 11) (bm 13 0x7ff) rfl rfl (by kernel_rfl) (by decide) (fun K hK => ?_)
 refine goes_ Tryz.func16 (by kernel_rfl) rfl #[.int .u16 (IntKind.u16.wrap c), .int .u32 p4, .int .u32 src] (by rfl) rfl rfl (by (try simp only [List.map_toArray, List.map_cons, List.map_nil]); first | done | rfl) ?_
 refine (H1 _).mono ?_
 rintro e u2 ⟨rfl, hb⟩
 refine ⟨_, rfl, ?_⟩
 have hO2 := pt_step hO1 hb
 have hT2 := pt_step hT1 hb
 have hB2 := pt_below hB1 (by have := hB1.size; omega) hb
 clear hb hO1 hT1 hB1 hHeld
 refine hK.out _ _ (hRS _ hO2 hT2) (fun hHeld => ?_)
 clear hK K
 refine nm 11 ?_
 refine one_ (i := 11) (N := some 16) (bm 13 0xfff) rfl rfl (by kernel_rfl) (by decide) (fun K hK => ?_)
 refine goes_ Tryz.func16 (by kernel_rfl) rfl #[.int .u16 m, .int .u32 p5, .int .u32 dst] (by rfl) rfl rfl (by (try simp only [List.map_toArray, List.map_cons, List.map_nil]); first | done | rfl) ?_
 refine (H2 _).mono ?_
 rintro e u3 ⟨rfl, hb⟩
 refine ⟨_, rfl, ?_⟩
 have hO3 := pt_step hO2 hb
 have hT3 := pt_step hT2 hb
 have hB3 := pt_below hB2 (by have := hB2.size; omega) hb
 clear hb hO2 hT2 hB2 hHeld
 refine hK.out _ _ (hRS _ hO3 hT3) (fun hHeld => ?_)
 clear hK K
 refine nm 16 ?_
 refine pk 12 4 (bm 13 0x1fff) ?_
 refine done_ (by kernel_rfl) ?_
 clear hHeld
 go_wp2_with (fail)
 go_ret
 exact ⟨rfl, hB3⟩
set_option maxRecDepth 100000 in
set_option maxHeartbeats 8000000 in
theorem pt_about_bad (s : ByteArray) (w : World) (A : Nat) (hA : w.heap.size = A) (os od src dst sp dp : Int) (p0 p1 p2 p3 p4 p5 p6 p7 p8 p9 p10 p11 p12 p13 : Int) (er : Int) (her : er ≠ 0) (HO : ∀ W, Calls Tryz.prog 14 #[.string s, .int .i64 2, .agg #[.int .u32 src, .int .u32 dst, .int .i64 sp, .int .i64 dp]] W fun e w' => e = .returned (.tuple #[.agg #[.int .i64 p0, .int .i64 p1, .int .i64 p2, .int .i64 p3, .int .u32 p4, .int .u32 p5, .int .i64 p6, .int .i64 p7, .int .i64 p8, .int .i64 p9, .int .u32 p10, .int .u32 p11, .int .i64 p12, .int .i64 p13], .pointer none, .int .i64 er]) ∧ Below W.heap.size W w') :
  Calls Tryz.prog 7 #[.string s, .int .u32 os, .int .u32 od, .agg #[.int .u32 src, .int .u32 dst, .int .i64 sp, .int .i64 dp]] w fun e w' => e = .returned (.tuple #[.string ⟨#[]⟩, .int .i64 er]) ∧ Below A w w' := by
 have d0 : (er != 0) = true := by simpa using her
 have d1 : (er == 0) = false := by simpa using her
 clear her
 have hAe := Lib.hid hA
 clear hA
 have tt := blk4 (World.alloc_heap_new w (.cells #[.int .u32 src, .int .u32 dst, .int .i64 sp, .int .i64 dp] 27))
 obtain ⟨t0, t1, t2, t3⟩ := tt
 go_enter Tryz.func7, Tryz.ntmps7
 go_wp2_with (fail)
 clear t0 t1 t2 t3
 refine (HO _).mono ?_
 rintro e w1 ⟨rfl, hb⟩
 have hB := below_step (below_alloc (Below.refl _ _) _) hb
 rw [hAe.out] at hB
 have hAH : A ≤ w1.heap.size := by have := hB.size; have := hAe.out; omega
 have HQ := Lib.hid hB
 clear hb hB
 go_wp2_with (fail)
 go_ret2
 exact ⟨rfl, Below.alloc HQ.out hAH _⟩
set_option maxRecDepth 100000 in
set_option maxHeartbeats 8000000 in
theorem pt_about_ok (s : ByteArray) (w : World) (A : Nat) (hA : w.heap.size = A) (os od src dst sp dp : Int) (p0 p1 p2 p3 p4 p5 p6 p7 p8 p9 p10 p11 p12 p13 : Int) (b0 b1 b2 b3 b4 b5 b6 b7 b8 : ByteArray) (HO : ∀ W, Calls Tryz.prog 14 #[.string s, .int .i64 2, .agg #[.int .u32 src, .int .u32 dst, .int .i64 sp, .int .i64 dp]] W fun e w' => ∃ g, e = .returned (.tuple #[.agg #[.int .i64 p0, .int .i64 p1, .int .i64 p2, .int .i64 p3, .int .u32 p4, .int .u32 p5, .int .i64 p6, .int .i64 p7, .int .i64 p8, .int .i64 p9, .int .u32 p10, .int .u32 p11, .int .i64 p12, .int .i64 p13], .pointer (some ⟨g, 0, none⟩), .int .i64 0]) ∧ W.heap.size ≤ g ∧ w'.heap[g]? = some (.cells #[.string b0] 63 (0, 0)) ∧ Below W.heap.size W w') (E1 : patch_buffer_outer.f b0 p1 os od = some b1) (n1 m1 c1 : Int) (Eg : patch_buffer_get.f b1 (wrap64 (p12 + 10)) 2 = some (n1, b1)) (HU1 : ∀ W, Calls Tryz.prog 16 #[.int .u16 (IntKind.u16.wrap n1), .int .u32 p4, .int .u32 src] W fun e w' => e = .returned (.int .u16 m1) ∧ Below W.heap.size W w') (HU2 : ∀ W, Calls Tryz.prog 16 #[.int .u16 m1, .int .u32 p5, .int .u32 dst] W fun e w' => e = .returned (.int .u16 c1) ∧ Below W.heap.size W w') (E2 : patch_buffer_put.f b1 (wrap64 (p12 + 10)) 2 (wrap64 c1) = some b2) (pl : Int) (pok : Bool) (HPl : ∀ W, Calls Tryz.prog 20 #[.int .i64 p3] W fun e w' => e = .returned (.tuple #[.int .i64 pl, .bool pok]) ∧ Below W.heap.size W w') (n2 : Int) (E3 : patch_buffer_get.f b2 (wrap64 (pl + p13)) 2 = some (n2, b2)) (z : Bool) (hz1 : p3 = 17 → z = (n2 == 0)) (hz2 : p3 ≠ 17 → z = false) (rm : Bool) (hrm : decide (wrap64 (wrap64 (pl + p13) + 2) ≤ (b2.size : Int)) = rm) (m3 c3 c4 c5 c6 : Int) (HV1 : ∀ W, Calls Tryz.prog 16 #[.int .u16 (IntKind.u16.wrap n2), .int .u32 p4, .int .u32 src] W fun e w' => e = .returned (.int .u16 m3) ∧ Below W.heap.size W w') (HV2 : ∀ W, Calls Tryz.prog 16 #[.int .u16 m3, .int .u32 p5, .int .u32 dst] W fun e w' => e = .returned (.int .u16 c3) ∧ Below W.heap.size W w') (HV3 : ∀ W, Calls Tryz.prog 21 #[.int .u16 c3, .int .u16 (IntKind.u16.wrap p6), .int .u16 (IntKind.u16.wrap sp)] W fun e w' => e = .returned (.int .u16 c4) ∧ Below W.heap.size W w') (HV4 : ∀ W, Calls Tryz.prog 21 #[.int .u16 c4, .int .u16 (IntKind.u16.wrap p7), .int .u16 (IntKind.u16.wrap dp)] W fun e w' => e = .returned (.int .u16 c5) ∧ Below W.heap.size W w') (h61 : p3 = 17 ∧ c5 = 0 → c6 = 65535) (h62 : ¬ (p3 = 17 ∧ c5 = 0) → c6 = c5) (E4 : (rm && !z) = true → patch_buffer_put.f b2 (wrap64 (pl + p13)) 2 c6 = some b3) (hw6 : wrap64 c6 = c6) (E4n : (rm && !z) = false → b3 = b2) (E5 : patch_buffer_put.f b3 (wrap64 (p12 + 12)) 4 (wrap64 src) = some b4) (E6 : patch_buffer_put.f b4 (wrap64 (p12 + 16)) 4 (wrap64 dst) = some b5) (E7 : patch_buffer_put.f b5 p13 2 sp = some b6) (E8 : patch_buffer_put.f b6 (wrap64 (p13 + 2)) 2 dp = some b7) (E9 : patch_buffer_check.f b7 (wrap64 (p1 + 2)) p1 b7.size = some b8) :
  Calls Tryz.prog 7 #[.string s, .int .u32 os, .int .u32 od, .agg #[.int .u32 src, .int .u32 dst, .int .i64 sp, .int .i64 dp]] w fun e w' => e = .returned (.tuple #[.string b8, .int .i64 0]) ∧ Below A w w' := by
 have hHid := Lib.hid (And.intro hz1 (And.intro hz2 (And.intro h61 (And.intro h62 (And.intro E4 E4n)))))
 clear hz1 hz2 h61 h62 E4 E4n
 have hrH := Lib.hid hrm
 have hwH := Lib.hid hw6
 clear hrm hw6
 have hAe := Lib.hid hA
 clear hA
 have tt := blk4 (World.alloc_heap_new w (.cells #[.int .u32 src, .int .u32 dst, .int .i64 sp, .int .i64 dp] 27))
 obtain ⟨t0, t1, t2, t3⟩ := tt
 go_enter Tryz.func7, Tryz.ntmps7
 go_wp2_with (fail)
 clear t0 t1 t2 t3
 refine (HO _).mono ?_
 rintro e w1 ⟨g, rfl, hg, hG, hb⟩
 have hT : w1.heap[w.heap.size]? = some (.cells #[.int .u32 src, .int .u32 dst, .int .i64 sp, .int .i64 dp] 27 (0, 0)) := pt_step (World.alloc_heap_new w _) hb
 have hB := below_step (below_alloc (Below.refl _ _) _) hb
 have hAg : w.heap.size < g := by rw [World.size_alloc] at hg; omega
 clear hb hg
 rw [hAe.out] at hT hB hAg ⊢
 have hgH : g < w1.heap.size := pt_lt hG
 have hAH : A < w1.heap.size := by omega
 obtain ⟨H, hH⟩ : ∃ H, w1.heap.size = H := ⟨_, rfl⟩
 obtain ⟨O, hO⟩ : ∃ O, w1.heap.size + 1 = O := ⟨_, rfl⟩
 have hP := World.alloc_heap_new w1 (.cells (rr14 p0 p1 p2 p3 p4 p5 p6 p7 p8 p9 p10 p11 p12 p13) 51)
 have hO0 : ((w1.alloc (.cells (rr14 p0 p1 p2 p3 p4 p5 p6 p7 p8 p9 p10 p11 p12 p13) 51)).alloc (.cells #[.int .i64 p3, .int .u32 p4, .int .u32 p5, .int .i64 p6, .int .i64 p7] 49)).heap[w1.heap.size + 1]? = some (.cells #[.int .i64 p3, .int .u32 p4, .int .u32 p5, .int .i64 p6, .int .i64 p7] 49 (0, 0)) := by
  have := World.alloc_heap_new (w1.alloc (.cells (rr14 p0 p1 p2 p3 p4 p5 p6 p7 p8 p9 p10 p11 p12 p13) 51)) (.cells #[.int .i64 p3, .int .u32 p4, .int .u32 p5, .int .i64 p6, .int .i64 p7] 49)
  rw [World.size_alloc] at this
  exact this
 have hP0 := pt_alloc (.cells #[.int .i64 p3, .int .u32 p4, .int .u32 p5, .int .i64 p6, .int .i64 p7] 49) hP
 have hT0 := pt_alloc (.cells #[.int .i64 p3, .int .u32 p4, .int .u32 p5, .int .i64 p6, .int .i64 p7] 49) (pt_alloc (.cells (rr14 p0 p1 p2 p3 p4 p5 p6 p7 p8 p9 p10 p11 p12 p13) 51) hT)
 have hI0 : IsS63 w ((w1.alloc (.cells (rr14 p0 p1 p2 p3 p4 p5 p6 p7 p8 p9 p10 p11 p12 p13) 51)).alloc (.cells #[.int .i64 p3, .int .u32 p4, .int .u32 p5, .int .i64 p6, .int .i64 p7] 49)) g b0 := ⟨pt_alloc _ (pt_alloc _ hG), by rw [hAe.out]; omega⟩
 have hB0 : Below A w ((w1.alloc (.cells (rr14 p0 p1 p2 p3 p4 p5 p6 p7 p8 p9 p10 p11 p12 p13) 51)).alloc (.cells #[.int .i64 p3, .int .u32 p4, .int .u32 p5, .int .i64 p6, .int .i64 p7] 49)) := Below.alloc (Below.alloc hB (by omega) _) (by rw [World.size_alloc]; omega) _
 have q3 := (blk_cell hP 3).trans (show _ = some (.int .i64 p3) from rfl)
 have q4 := (blk_cell hP 4).trans (show _ = some (.int .u32 p4) from rfl)
 have q5 := (blk_cell hP 5).trans (show _ = some (.int .u32 p5) from rfl)
 have q6 := (blk_cell hP 6).trans (show _ = some (.int .i64 p6) from rfl)
 have q7 := (blk_cell hP 7).trans (show _ = some (.int .i64 p7) from rfl)
 have r1 := (blk_cell hP0 1).trans (show _ = some (.int .i64 p1) from rfl)
 have HQ := Lib.hid (And.intro hH (And.intro hO (And.intro hT0 (And.intro hP0 (And.intro hO0 (And.intro hI0 hB0))))))
 clear hT hG hB hP hH hO hT0 hP0 hO0 hI0 hB0
 go_wp2_with (fail)
 obtain ⟨hH, hO, hT0, hP0, hO0, hI0, hB0⟩ := HQ.out
 clear HQ q3 q4 q5 q6 q7 r1
 have hHO : H < O := by omega
 rw [hO] at hO0
 rw [hH] at hP0 hgH hAH hO
 (try rw [hH])
 (try simp only [hH])
 (try simp only [hO])
 generalize ((w1.alloc (.cells (rr14 p0 p1 p2 p3 p4 p5 p6 p7 p8 p9 p10 p11 p12 p13) 51)).alloc (.cells #[.int .i64 p3, .int .u32 p4, .int .u32 p5, .int .i64 p6, .int .i64 p7] 49)) = v0 at hT0 hP0 hO0 hI0 hB0 ⊢
 clear hH hO
 clear w1
 refine (patch_buffer_outer.calls g _ p1 os od _ w _ hI0 (by rw [hAe.out]; exact hB0) E1).mono ?_
 rintro e v1 ⟨rfl, hI1, hb, hk⟩
 rw [hAe.out] at hb
 have hT1 := pt_keep hT0 hk (by omega)
 have hP1 := pt_keep hP0 hk (by omega)
 have hO1 := pt_keep hO0 hk (by omega)
 have hB1 := hb
 clear hb hk hT0 hP0 hO0 hI0 hB0
 have HQ := Lib.hid (And.intro hT1 (And.intro hP1 (And.intro hO1 (And.intro hI1 hB1))))
 clear hT1 hP1 hO1 hI1 hB1
 go_wp2_with (fail)
 obtain ⟨hT1, hP1, hO1, hI1, hB1⟩ := HQ.out
 clear HQ
 refine start_ (n := 13) (S := fun w' => w'.cell? ⟨H, 12, none⟩ = some (.int .i64 p12)) (ds := []) (bm 13 0x0) (by kernel_rfl) rfl rfl ((blk_cell (pt_drew hP1) 12).trans rfl) (fun hHeld => ?_)
 have hT2 := pt_drew hT1
 have hP2 := pt_drew hP1
 have hO2 := pt_drew hO1
 have hI2 := hI1.drew
 have hB2 := pt_below_drew hB1
 clear hT1 hP1 hO1 hI1 hB1
 generalize v1.drew = u1 at hT2 hP2 hO2 hI2 hB2 hHeld ⊢
 refine pk 0 38 (bm 13 0x1) ?_
 refine pk 1 39 (bm 13 0x3) ?_
 refine tk1 2 40 (bm 13 0x7) hHeld ?_
 refine pk 3 41 (bm 13 0xf) ?_
 refine pk 4 42 (bm 13 0x1f) ?_
 refine pk 5 43 (bm 13 0x3f) ?_
 refine pk 6 44 (bm 13 0x7f) ?_
 refine tk1 7 45 (bm 13 0xff) hHeld ?_
 refine pk 8 46 (bm 13 0x1ff) ?_
 refine one_ (i := 9) (N := some 47) (bm 13 0x3ff) rfl rfl (by kernel_rfl) (by decide) (fun K hK => ?_)
 refine goes_ Tryz.func19 (by kernel_rfl) rfl #[.pointer (some ⟨g, 0, none⟩), .int .i64 (wrap64 (p12 + 10)), .int .i64 2] (by rfl) rfl rfl (by (try simp only [List.map_toArray, List.map_cons, List.map_nil]); first | done | rfl) ?_
 refine (patch_buffer_get.calls g _ (wrap64 (p12 + 10)) 2 _ _ w _ hI2 (by rw [hAe.out]; exact hB2) Eg).mono ?_
 rintro e u2 ⟨rfl, hI3, hb, hk⟩
 rw [hAe.out] at hb
 have hT3 := pt_keep hT2 hk (by omega)
 have hP3 := pt_keep hP2 hk (by omega)
 have hO3 := pt_keep hO2 hk (by omega)
 have hB3 := hb
 clear hb hk hT2 hP2 hO2 hI2 hB2
 refine ⟨_, rfl, ?_⟩
 clear hHeld
 refine hK.out _ _ ((blk_cell hP3 12).trans rfl) (fun hHeld => ?_)
 clear hK K
 refine nm 47 ?_
 refine one_ (i := 10) (N := some 48) (bm 13 0x7ff) rfl rfl (by kernel_rfl) (by decide) (fun K hK => ?_)
 refine goesC_ Tryz.func15 (by kernel_rfl) rfl #[.int .i64 n1] #[.pointer (some ⟨O, 0, none⟩), .pointer (some ⟨A, 0, none⟩)] (by rfl) rfl 42 rfl rfl (by (try simp only [List.map_toArray, List.map_cons, List.map_nil]); first | done | rfl) ?_
 refine (pt_moved _ n1 _ _ hO3 hT3 HU1 HU2).mono ?_
 rintro e u3 ⟨rfl, hb⟩
 have hT4 := pt_step hT3 hb
 have hP4 := pt_step hP3 hb
 have hO4 := pt_step hO3 hb
 have hI4 := hI3.below hb
 have hB4 := pt_below hB3 (by have := pt_lt hT3; omega) hb
 clear hb hT3 hP3 hO3 hI3 hB3
 refine ⟨_, rfl, ?_⟩
 clear hHeld
 refine hK.out _ _ ((blk_cell hP4 12).trans rfl) (fun hHeld => ?_)
 clear hK K
 refine nm 48 ?_
 refine pk 11 49 (bm 13 0xfff) ?_
 refine one_ (i := 12) (N := some 50) (bm 13 0x1fff) rfl rfl (by kernel_rfl) (by decide) (fun K hK => ?_)
 refine goes_ Tryz.func18 (by kernel_rfl) rfl #[.pointer (some ⟨g, 0, none⟩), .int .i64 (wrap64 (p12 + 10)), .int .i64 2, .int .i64 (wrap64 c1)] (by rfl) rfl rfl (by (try simp only [List.map_toArray, List.map_cons, List.map_nil]); first | done | rfl) ?_
 refine (patch_buffer_put.calls g _ (wrap64 (p12 + 10)) 2 (wrap64 c1) _ w _ hI4 (by rw [hAe.out]; exact hB4) E2).mono ?_
 rintro e u4 ⟨rfl, hI5, hb, hk⟩
 rw [hAe.out] at hb
 have hT5 := pt_keep hT4 hk (by omega)
 have hP5 := pt_keep hP4 hk (by omega)
 have hO5 := pt_keep hO4 hk (by omega)
 have hB5 := hb
 clear hb hk hT4 hP4 hO4 hI4 hB4
 refine ⟨_, rfl, ?_⟩
 clear hHeld
 refine hK.out _ _ ((blk_cell hP5 12).trans rfl) (fun hHeld => ?_)
 clear hK K
 refine nm 50 ?_
 refine done_ (by kernel_rfl) ?_
 clear hHeld
 have o0 := (blk_cell hO5 0).trans (show _ = some (.int .i64 p3) from rfl)
 have HQ := Lib.hid (And.intro hT5 (And.intro hP5 (And.intro hO5 (And.intro hI5 hB5))))
 clear hT5 hP5 hO5 hI5 hB5
 go_wp2_with (fail)
 obtain ⟨hT5, hP5, hO5, hI5, hB5⟩ := HQ.out
 clear HQ
 clear o0
 refine (HPl _).mono ?_
 rintro e u5 ⟨rfl, hb⟩
 have hT6 := pt_step hT5 hb
 have hP6 := pt_step hP5 hb
 have hO6 := pt_step hO5 hb
 have hI6 := hI5.below hb
 have hB6 := pt_below hB5 (by have := pt_lt hT5; omega) hb
 clear hb hT5 hP5 hO5 hI5 hB5
 have q13 := (blk_cell hP6 13).trans (show _ = some (.int .i64 p13) from rfl)
 have HQ := Lib.hid (And.intro hT6 (And.intro hP6 (And.intro hO6 (And.intro hI6 hB6))))
 clear hT6 hP6 hO6 hI6 hB6
 go_upto_region 10 with (fail)
 obtain ⟨hT6, hP6, hO6, hI6, hB6⟩ := HQ.out
 clear HQ
 clear q13
 go_cut [17] (fun v17 wc => v17 = .bool z ∧ Aside0 (wc.heap[A]? = some (.cells #[.int .u32 src, .int .u32 dst, .int .i64 sp, .int .i64 dp] 27 (0, 0)) ∧ wc.heap[H]? = some (.cells (rr14 p0 p1 p2 p3 p4 p5 p6 p7 p8 p9 p10 p11 p12 p13) 51 (0, 0)) ∧ wc.heap[O]? = some (.cells #[.int .i64 p3, .int .u32 p4, .int .u32 p5, .int .i64 p6, .int .i64 p7] 49 (0, 0)) ∧ IsS63 w wc g b2 ∧ Below A w wc))
 case first =>
  by_cases h17 : p3 = 17
  ·have hz := hHid.out.1 h17
   have e17 : (p3 == 17) = true := by rw [h17]; rfl
   clear h17
   have o0 := (blk_cell hO6 0).trans (show _ = some (.int .i64 p3) from rfl)
   have HQ := Lib.hid (And.intro hT6 (And.intro hP6 (And.intro hO6 (And.intro hI6 hB6))))
   clear hT6 hP6 hO6 hI6 hB6
   go_wp2_with (fail)
   obtain ⟨hT6, hP6, hO6, hI6, hB6⟩ := HQ.out
   clear HQ
   clear o0
   refine (patch_buffer_get.calls g _ (wrap64 (pl + p13)) 2 _ _ w _ hI6 (by rw [hAe.out]; exact hB6) E3).mono ?_
   rintro e u6 ⟨rfl, hI7, hb, hk⟩
   rw [hAe.out] at hb
   have hT7 := pt_keep hT6 hk (by omega)
   have hP7 := pt_keep hP6 hk (by omega)
   have hO7 := pt_keep hO6 hk (by omega)
   have hB7 := hb
   clear hb hk hT6 hP6 hO6 hI6 hB6
   have HQ := Lib.hid (And.intro hT7 (And.intro hP7 (And.intro hO7 (And.intro hI7 hB7))))
   clear hT7 hP7 hO7 hI7 hB7
   go_wp2
   go_meet
   case rel => exact ⟨congrArg Value.bool hz.symm, AA HQ.out⟩
  have hz := hHid.out.2.1 h17
  have e17 : (p3 == 17) = false := by simpa using h17
  clear h17
  have o0 := (blk_cell hO6 0).trans (show _ = some (.int .i64 p3) from rfl)
  have HQ := Lib.hid (And.intro hT6 (And.intro hP6 (And.intro hO6 (And.intro hI6 hB6))))
  clear hT6 hP6 hO6 hI6 hB6
  go_wp2
  go_meet
  case rel => exact ⟨congrArg Value.bool hz.symm, AA HQ.out⟩
 case rest =>
  try clear HQ; try clear hT6 hP6 hO6 hI6 hB6
  obtain ⟨rfl, hR⟩ := hcut
  obtain ⟨hT7, hP7, hO7, hI7, hB7⟩ := hR.out
  clear hR
  have HQ := Lib.hid (And.intro hT7 (And.intro hP7 (And.intro hO7 (And.intro hI7 hB7))))
  clear hT7 hP7 hO7 hI7 hB7
  go_upto_region 11 with (fail)
  obtain ⟨hT7, hP7, hO7, hI7, hB7⟩ := HQ.out
  clear HQ
  go_cut [81] (fun v81 wc => v81 = .bool (rm && !z) ∧ Aside0 (wc.heap[A]? = some (.cells #[.int .u32 src, .int .u32 dst, .int .i64 sp, .int .i64 dp] 27 (0, 0)) ∧ wc.heap[H]? = some (.cells (rr14 p0 p1 p2 p3 p4 p5 p6 p7 p8 p9 p10 p11 p12 p13) 51 (0, 0)) ∧ wc.heap[O]? = some (.cells #[.int .i64 p3, .int .u32 p4, .int .u32 p5, .int .i64 p6, .int .i64 p7] 49 (0, 0)) ∧ IsS63 w wc g b2 ∧ Below A w wc))
  case first =>
   have hr := hrH.out
   have s0 := (blk_cell hI7.1 0).trans (show _ = some (.string b2) from rfl)
   cases rm
   ·have HQ := Lib.hid (And.intro hT7 (And.intro hP7 (And.intro hO7 (And.intro hI7 hB7))))
    clear hT7 hP7 hO7 hI7 hB7
    go_wp2
    go_meet
    case rel => exact ⟨rfl, AA HQ.out⟩
   have HQ := Lib.hid (And.intro hT7 (And.intro hP7 (And.intro hO7 (And.intro hI7 hB7))))
   clear hT7 hP7 hO7 hI7 hB7
   go_wp2
   go_meet
   case rel => exact ⟨(by cases z <;> rfl), AA HQ.out⟩
  case rest =>
   try clear HQ; try clear hT7 hP7 hO7 hI7 hB7
   obtain ⟨rfl, hR⟩ := hcut
   obtain ⟨hT8, hP8, hO8, hI8, hB8⟩ := hR.out
   clear hR
   have HQ := Lib.hid (And.intro hT8 (And.intro hP8 (And.intro hO8 (And.intro hI8 hB8))))
   clear hT8 hP8 hO8 hI8 hB8
   go_upto_if 81 with (fail)
   obtain ⟨hT8, hP8, hO8, hI8, hB8⟩ := HQ.out
   clear HQ
   go_cut [] (fun wc => Aside0 (wc.heap[A]? = some (.cells #[.int .u32 src, .int .u32 dst, .int .i64 sp, .int .i64 dp] 27 (0, 0)) ∧ wc.heap[H]? = some (.cells (rr14 p0 p1 p2 p3 p4 p5 p6 p7 p8 p9 p10 p11 p12 p13) 51 (0, 0)) ∧ wc.heap[O]? = some (.cells #[.int .i64 p3, .int .u32 p4, .int .u32 p5, .int .i64 p6, .int .i64 p7] 49 (0, 0)) ∧ IsS63 w wc g b3 ∧ Below A w wc))
   case first =>
    cases hzr : (rm && !z)
    ·have hb3 := hHid.out.2.2.2.2.2 hzr
     subst hb3
     have HQ := Lib.hid (And.intro hT8 (And.intro hP8 (And.intro hO8 (And.intro hI8 hB8))))
     clear hT8 hP8 hO8 hI8 hB8
     go_wp2
     go_meet
     case rel => exact AA HQ.out
    have HQ := Lib.hid (And.intro hT8 (And.intro hP8 (And.intro hO8 (And.intro hI8 hB8))))
    clear hT8 hP8 hO8 hI8 hB8
    go_wp2_with (fail)
    obtain ⟨hT8, hP8, hO8, hI8, hB8⟩ := HQ.out
    clear HQ
    refine start_ (n := 13) (S := fun w' => w'.cell? ⟨O, 3, none⟩ = some (.int .i64 p6) ∧ w'.cell? ⟨A, 2, none⟩ = some (.int .i64 sp)) (ds := []) (bm 13 0x0) (by kernel_rfl) rfl rfl ⟨(blk_cell (pt_drew hO8) 3).trans rfl, (blk_cell (pt_drew hT8) 2).trans rfl⟩ (fun hHeld => ?_)
    have hT9 := pt_drew hT8
    have hP9 := pt_drew hP8
    have hO9 := pt_drew hO8
    have hI9 := hI8.drew
    have hB9 := pt_below_drew hB8
    clear hT8 hP8 hO8 hI8 hB8
    generalize wc.drew = u7 at hT9 hP9 hO9 hI9 hB9 hHeld ⊢
    refine pk 0 82 (bm 13 0x1) ?_
    refine pk 1 83 (bm 13 0x3) ?_
    refine pk 2 84 (bm 13 0x7) ?_
    refine pk 5 87 (bm 13 0x27) ?_
    refine tk 6 88 (bm 13 0x67) hHeld ?_
    refine pk 7 89 (bm 13 0xe7) ?_
    refine pk 8 90 (bm 13 0x1e7) ?_
    refine tk 9 91 (bm 13 0x3e7) hHeld ?_
    refine pk 10 92 (bm 13 0x7e7) ?_
    refine one_ (i := 3) (N := some 85) (bm 13 0x7ef) rfl rfl (by kernel_rfl) (by decide) (fun K hK => ?_)
    refine goes_ Tryz.func19 (by kernel_rfl) rfl #[.pointer (some ⟨g, 0, none⟩), .int .i64 (wrap64 (pl + p13)), .int .i64 2] (by rfl) rfl rfl (by (try simp only [List.map_toArray, List.map_cons, List.map_nil]); first | done | rfl) ?_
    refine (patch_buffer_get.calls g _ (wrap64 (pl + p13)) 2 _ _ w _ hI9 (by rw [hAe.out]; exact hB9) E3).mono ?_
    rintro e u8 ⟨rfl, hI10, hb, hk⟩
    rw [hAe.out] at hb
    have hT10 := pt_keep hT9 hk (by omega)
    have hP10 := pt_keep hP9 hk (by omega)
    have hO10 := pt_keep hO9 hk (by omega)
    have hB10 := hb
    clear hb hk hT9 hP9 hO9 hI9 hB9
    refine ⟨_, rfl, ?_⟩
    clear hHeld
    refine hK.out _ _ ⟨(blk_cell hO10 3).trans rfl, (blk_cell hT10 2).trans rfl⟩ (fun hHeld => ?_)
    clear hK K
    refine nm 85 ?_
    refine one_ (i := 4) (N := some 86) (bm 13 0x7ff) rfl rfl (by kernel_rfl) (by decide) (fun K hK => ?_)
    refine goesC_ Tryz.func15 (by kernel_rfl) rfl #[.int .i64 n2] #[.pointer (some ⟨O, 0, none⟩), .pointer (some ⟨A, 0, none⟩)] (by rfl) rfl 82 rfl rfl (by (try simp only [List.map_toArray, List.map_cons, List.map_nil]); first | done | rfl) ?_
    refine (pt_moved _ n2 _ _ hO10 hT10 HV1 HV2).mono ?_
    rintro e u9 ⟨rfl, hb⟩
    have hT11 := pt_step hT10 hb
    have hP11 := pt_step hP10 hb
    have hO11 := pt_step hO10 hb
    have hI11 := hI10.below hb
    have hB11 := pt_below hB10 (by have := pt_lt hT10; omega) hb
    clear hb hT10 hP10 hO10 hI10 hB10
    refine ⟨_, rfl, ?_⟩
    clear hHeld
    refine hK.out _ _ ⟨(blk_cell hO11 3).trans rfl, (blk_cell hT11 2).trans rfl⟩ (fun hHeld => ?_)
    clear hK K
    refine nm 86 ?_
    refine one_ (i := 11) (N := some 93) (bm 13 0xfff) rfl rfl (by kernel_rfl) (by decide) (fun K hK => ?_)
    refine goes_ Tryz.func21 (by kernel_rfl) rfl #[.int .u16 c3, .int .u16 (IntKind.u16.wrap p6), .int .u16 (IntKind.u16.wrap sp)] (by rfl) rfl rfl (by (try simp only [List.map_toArray, List.map_cons, List.map_nil]); first | done | rfl) ?_
    refine (HV3 _).mono ?_
    rintro e u10 ⟨rfl, hb⟩
    have hT12 := pt_step hT11 hb
    have hP12 := pt_step hP11 hb
    have hO12 := pt_step hO11 hb
    have hI12 := hI11.below hb
    have hB12 := pt_below hB11 (by have := pt_lt hT11; omega) hb
    clear hb hT11 hP11 hO11 hI11 hB11
    refine ⟨_, rfl, ?_⟩
    clear hHeld
    refine hK.out _ _ ⟨(blk_cell hO12 3).trans rfl, (blk_cell hT12 2).trans rfl⟩ (fun hHeld => ?_)
    clear hK K
    refine nm 93 ?_
    refine pk 12 18 (bm 13 0x1fff) ?_
    refine done_ (by kernel_rfl) ?_
    clear hHeld
    have t3 := (blk_cell hT12 3).trans (show _ = some (.int .i64 dp) from rfl)
    have o4 := (blk_cell hO12 4).trans (show _ = some (.int .i64 p7) from rfl)
    have HQ := Lib.hid (And.intro hT12 (And.intro hP12 (And.intro hO12 (And.intro hI12 hB12))))
    clear hT12 hP12 hO12 hI12 hB12
    go_wp2_with (fail)
    obtain ⟨hT12, hP12, hO12, hI12, hB12⟩ := HQ.out
    clear HQ
    clear t3 o4
    refine (HV4 _).mono ?_
    rintro e u11 ⟨rfl, hb⟩
    have hT13 := pt_step hT12 hb
    have hP13 := pt_step hP12 hb
    have hO13 := pt_step hO12 hb
    have hI13 := hI12.below hb
    have hB13 := pt_below hB12 (by have := pt_lt hT12; omega) hb
    clear hb hT12 hP12 hO12 hI12 hB12
    have h6 := hHid.out.2.2.1
    have h7 := hHid.out.2.2.2.1
    have HE := Lib.hid (hHid.out.2.2.2.2.1 hzr)
    by_cases h17 : p3 = 17
    rotate_left
    ·have e17 : (p3 == 17) = false := by simpa using h17
     have := h7 (fun q => h17 q.1)
     subst this
     clear h17 h6 h7
     have o0 := (blk_cell hO13 0).trans (show _ = some (.int .i64 p3) from rfl)
     have HQ := Lib.hid (And.intro hT13 (And.intro hP13 (And.intro hO13 (And.intro hI13 hB13))))
     clear hT13 hP13 hO13 hI13 hB13
     go_wp2_with (fail)
     obtain ⟨hT13, hP13, hO13, hI13, hB13⟩ := HQ.out
     clear HQ
     clear o0
     rw [hwH.out]
     refine (patch_buffer_put.calls g _ (wrap64 (pl + p13)) 2 _ _ w _ hI13 (by rw [hAe.out]; exact hB13) HE.out).mono ?_
     rintro e u12 ⟨rfl, hI14, hb, hk⟩
     rw [hAe.out] at hb
     have hT14 := pt_keep hT13 hk (by omega)
     have hP14 := pt_keep hP13 hk (by omega)
     have hO14 := pt_keep hO13 hk (by omega)
     have hB14 := hb
     clear hb hk hT13 hP13 hO13 hI13 hB13
     have HQ := Lib.hid (And.intro hT14 (And.intro hP14 (And.intro hO14 (And.intro hI14 hB14))))
     clear hT14 hP14 hO14 hI14 hB14
     go_wp2
     go_meet
     case rel => exact AA HQ.out
    have e17 : (p3 == 17) = true := by rw [h17]; rfl
    by_cases h0 : c5 = 0
    ·have e0 : (c5 == 0) = true := by rw [h0]; rfl
     have := h6 ⟨h17, h0⟩
     subst this
     clear h17 h0 h6 h7
     have o0 := (blk_cell hO13 0).trans (show _ = some (.int .i64 p3) from rfl)
     have HQ := Lib.hid (And.intro hT13 (And.intro hP13 (And.intro hO13 (And.intro hI13 hB13))))
     clear hT13 hP13 hO13 hI13 hB13
     go_wp2_with (fail)
     obtain ⟨hT13, hP13, hO13, hI13, hB13⟩ := HQ.out
     clear HQ
     clear o0
     refine (patch_buffer_put.calls g _ (wrap64 (pl + p13)) 2 _ _ w _ hI13 (by rw [hAe.out]; exact hB13) HE.out).mono ?_
     rintro e u12 ⟨rfl, hI14, hb, hk⟩
     rw [hAe.out] at hb
     have hT14 := pt_keep hT13 hk (by omega)
     have hP14 := pt_keep hP13 hk (by omega)
     have hO14 := pt_keep hO13 hk (by omega)
     have hB14 := hb
     clear hb hk hT13 hP13 hO13 hI13 hB13
     have HQ := Lib.hid (And.intro hT14 (And.intro hP14 (And.intro hO14 (And.intro hI14 hB14))))
     clear hT14 hP14 hO14 hI14 hB14
     go_wp2
     go_meet
     case rel => exact AA HQ.out
    have e0 : (c5 == 0) = false := by simpa using h0
    have := h7 (fun q => h0 q.2)
    subst this
    clear h17 h0 h6 h7
    have o0 := (blk_cell hO13 0).trans (show _ = some (.int .i64 p3) from rfl)
    have HQ := Lib.hid (And.intro hT13 (And.intro hP13 (And.intro hO13 (And.intro hI13 hB13))))
    clear hT13 hP13 hO13 hI13 hB13
    go_wp2_with (fail)
    obtain ⟨hT13, hP13, hO13, hI13, hB13⟩ := HQ.out
    clear HQ
    clear o0
    rw [hwH.out]
    refine (patch_buffer_put.calls g _ (wrap64 (pl + p13)) 2 _ _ w _ hI13 (by rw [hAe.out]; exact hB13) HE.out).mono ?_
    rintro e u12 ⟨rfl, hI14, hb, hk⟩
    rw [hAe.out] at hb
    have hT14 := pt_keep hT13 hk (by omega)
    have hP14 := pt_keep hP13 hk (by omega)
    have hO14 := pt_keep hO13 hk (by omega)
    have hB14 := hb
    clear hb hk hT13 hP13 hO13 hI13 hB13
    have HQ := Lib.hid (And.intro hT14 (And.intro hP14 (And.intro hO14 (And.intro hI14 hB14))))
    clear hT14 hP14 hO14 hI14 hB14
    go_wp2
    go_meet
    case rel => exact AA HQ.out
   case rest =>
    try clear HQ; try clear hT8 hP8 hO8 hI8 hB8
    have hR := hcut
    clear hcut
    obtain ⟨hT15, hP15, hO15, hI15, hB15⟩ := hR.out
    clear hR
    have q12 := (blk_cell hP15 12).trans (show _ = some (.int .i64 p12) from rfl)
    have t0 := (blk_cell hT15 0).trans (show _ = some (.int .u32 src) from rfl)
    have HQ := Lib.hid (And.intro hT15 (And.intro hP15 (And.intro hO15 (And.intro hI15 hB15))))
    clear hT15 hP15 hO15 hI15 hB15
    go_wp2_with (fail)
    obtain ⟨hT15, hP15, hO15, hI15, hB15⟩ := HQ.out
    clear HQ
    clear q12 t0
    refine (patch_buffer_put.calls g _ (wrap64 (p12 + 12)) 4 (wrap64 src) _ w _ hI15 (by rw [hAe.out]; exact hB15) E5).mono ?_
    rintro e u13 ⟨rfl, hI16, hb, hk⟩
    rw [hAe.out] at hb
    have hT16 := pt_keep hT15 hk (by omega)
    have hP16 := pt_keep hP15 hk (by omega)
    have hO16 := pt_keep hO15 hk (by omega)
    have hB16 := hb
    clear hb hk hT15 hP15 hO15 hI15 hB15
    have q12 := (blk_cell hP16 12).trans (show _ = some (.int .i64 p12) from rfl)
    have t1 := (blk_cell hT16 1).trans (show _ = some (.int .u32 dst) from rfl)
    have HQ := Lib.hid (And.intro hT16 (And.intro hP16 (And.intro hO16 (And.intro hI16 hB16))))
    clear hT16 hP16 hO16 hI16 hB16
    go_wp2_with (fail)
    obtain ⟨hT16, hP16, hO16, hI16, hB16⟩ := HQ.out
    clear HQ
    clear q12 t1
    refine (patch_buffer_put.calls g _ (wrap64 (p12 + 16)) 4 (wrap64 dst) _ w _ hI16 (by rw [hAe.out]; exact hB16) E6).mono ?_
    rintro e u14 ⟨rfl, hI17, hb, hk⟩
    rw [hAe.out] at hb
    have hT17 := pt_keep hT16 hk (by omega)
    have hP17 := pt_keep hP16 hk (by omega)
    have hO17 := pt_keep hO16 hk (by omega)
    have hB17 := hb
    clear hb hk hT16 hP16 hO16 hI16 hB16
    have q13 := (blk_cell hP17 13).trans (show _ = some (.int .i64 p13) from rfl)
    have t2 := (blk_cell hT17 2).trans (show _ = some (.int .i64 sp) from rfl)
    have HQ := Lib.hid (And.intro hT17 (And.intro hP17 (And.intro hO17 (And.intro hI17 hB17))))
    clear hT17 hP17 hO17 hI17 hB17
    go_wp2_with (fail)
    obtain ⟨hT17, hP17, hO17, hI17, hB17⟩ := HQ.out
    clear HQ
    clear q13 t2
    refine (patch_buffer_put.calls g _ p13 2 sp _ w _ hI17 (by rw [hAe.out]; exact hB17) E7).mono ?_
    rintro e u15 ⟨rfl, hI18, hb, hk⟩
    rw [hAe.out] at hb
    have hT18 := pt_keep hT17 hk (by omega)
    have hP18 := pt_keep hP17 hk (by omega)
    have hO18 := pt_keep hO17 hk (by omega)
    have hB18 := hb
    clear hb hk hT17 hP17 hO17 hI17 hB17
    have q13 := (blk_cell hP18 13).trans (show _ = some (.int .i64 p13) from rfl)
    have t3 := (blk_cell hT18 3).trans (show _ = some (.int .i64 dp) from rfl)
    have HQ := Lib.hid (And.intro hT18 (And.intro hP18 (And.intro hO18 (And.intro hI18 hB18))))
    clear hT18 hP18 hO18 hI18 hB18
    go_wp2_with (fail)
    obtain ⟨hT18, hP18, hO18, hI18, hB18⟩ := HQ.out
    clear HQ
    clear q13 t3
    refine (patch_buffer_put.calls g _ (wrap64 (p13 + 2)) 2 dp _ w _ hI18 (by rw [hAe.out]; exact hB18) E8).mono ?_
    rintro e u16 ⟨rfl, hI19, hb, hk⟩
    rw [hAe.out] at hb
    have hT19 := pt_keep hT18 hk (by omega)
    have hP19 := pt_keep hP18 hk (by omega)
    have hO19 := pt_keep hO18 hk (by omega)
    have hB19 := hb
    clear hb hk hT18 hP18 hO18 hI18 hB18
    have HQ := Lib.hid (And.intro hT19 (And.intro hP19 (And.intro hO19 (And.intro hI19 hB19))))
    clear hT19 hP19 hO19 hI19 hB19
    go_wp2_with (fail)
    obtain ⟨hT19, hP19, hO19, hI19, hB19⟩ := HQ.out
    clear HQ
    refine start_ (n := 12) (S := fun w' => w'.cell? ⟨H, 1, none⟩ = some (.int .i64 p1) ∧ w'.cell? ⟨g, 0, none⟩ = some (.string b7)) (ds := [11]) (bm 12 0x0) (by kernel_rfl) rfl rfl ⟨(blk_cell (pt_drew hP19) 1).trans rfl, (blk_cell (pt_drew hI19.1) 0).trans rfl⟩ (fun hHeld => ?_)
    have hT20 := pt_drew hT19
    have hP20 := pt_drew hP19
    have hO20 := pt_drew hO19
    have hI20 := hI19.drew
    have hB20 := pt_below_drew hB19
    clear hT19 hP19 hO19 hI19 hB19
    generalize u16.drew = u17 at hT20 hP20 hO20 hI20 hB20 hHeld ⊢
    refine pk 0 143 (bm 12 0x1) ?_
    refine pk 1 144 (bm 12 0x3) ?_
    refine tk 2 145 (bm 12 0x7) hHeld ?_
    refine pk 3 146 (bm 12 0xf) ?_
    refine pk 4 147 (bm 12 0x1f) ?_
    refine tk 5 148 (bm 12 0x3f) hHeld ?_
    refine pk 6 149 (bm 12 0x7f) ?_
    refine pk 7 150 (bm 12 0xff) ?_
    refine pk 8 151 (bm 12 0x1ff) ?_
    refine tk 9 152 (bm 12 0x3ff) hHeld ?_
    refine pk 10 153 (bm 12 0x7ff) ?_
    refine last_ (i := 11) (N := some 154) (bm 12 0xfff) rfl rfl (by kernel_rfl) (by decide) (fun K hK => ?_)
    refine goes_ Tryz.func22 (by kernel_rfl) rfl #[.pointer (some ⟨g, 0, none⟩), .int .i64 (wrap64 (p1 + 2)), .int .i64 p1, .int .i64 b7.size] (by rfl) rfl rfl (by (try simp only [List.map_toArray, List.map_cons, List.map_nil]); first | done | rfl) ?_
    refine (patch_buffer_check.calls g _ (wrap64 (p1 + 2)) p1 b7.size _ w _ hI20 (by rw [hAe.out]; exact hB20) E9).mono ?_
    rintro e u18 ⟨rfl, hI21, hb, hk⟩
    rw [hAe.out] at hb
    have hT21 := pt_keep hT20 hk (by omega)
    have hP21 := pt_keep hP20 hk (by omega)
    have hO21 := pt_keep hO20 hk (by omega)
    have hB21 := hb
    clear hb hk hT20 hP20 hO20 hI20 hB20
    refine ⟨_, rfl, ?_⟩
    clear hHeld
    refine hK.out _ _ ?_
    clear hK K
    refine nm 154 ?_
    refine done_ (by kernel_rfl) ?_
    have s0 := (blk_cell hI21.1 0).trans (show _ = some (.string b8) from rfl)
    have HQ := Lib.hid (And.intro hT21 (And.intro hP21 (And.intro hO21 (And.intro hI21 hB21))))
    clear hT21 hP21 hO21 hI21 hB21
    go_wp2_with (fail)
    obtain ⟨hT21, hP21, hO21, hI21, hB21⟩ := HQ.out
    clear HQ
    clear s0
    go_ret2
    exact ⟨rfl, hB21⟩
theorem pt_get2 (s : List UInt8) (a : Int) : 0 ≤ (Sp.get s a 2).1 ∧ (Sp.get s a 2).1 ≤ 65535 := by
 unfold Sp.get
 split
 case isTrue h =>
  have hb := beNum_bounds ((s.drop a.toNat).take (2 : Int).toNat)
  have hl : ((s.drop a.toNat).take (2 : Int).toNat).length ≤ 2 := by rw [List.length_take]; exact Nat.min_le_left _ _
  have hp : (256 : Int) ^ ((s.drop a.toNat).take (2 : Int).toNat).length ≤ 256 ^ 2 := by
   have : ((s.drop a.toNat).take (2 : Int).toNat).length = 0 ∨ ((s.drop a.toNat).take (2 : Int).toNat).length = 1 ∨ ((s.drop a.toNat).take (2 : Int).toNat).length = 2 := by omega
   rcases this with e | e | e <;> rw [e] <;> decide
  refine ⟨hb.1, ?_⟩
  have := hb.2
  show beNum ((s.drop a.toNat).take (2 : Int).toNat) ≤ 65535
  omega
 case isFalse => exact ⟨by decide, by decide⟩
theorem pt_two {s : List UInt8} (he : (pkt s).e = 0) (hk : (pkt s).kind = 2) : 20 ≤ (pkt s).at_ ∧ (pkt s).at_ ≤ (pkt s).total ∧ (pkt s).total ≤ s.length ∧ (pkt s).total ≤ 1500 ∧ ((pkt s).proto = 6 ∨ (pkt s).proto = 17) ∧ (0 ≤ (pkt s).tsrc ∧ (pkt s).tsrc ≤ 4294967295) ∧ (0 ≤ (pkt s).tdst ∧ (pkt s).tdst ≤ 4294967295) ∧ (0 ≤ (pkt s).sp ∧ (pkt s).sp ≤ 65535) ∧ (0 ≤ (pkt s).dp ∧ (pkt s).dp ≤ 65535) ∧ (0 ≤ (pkt s).quote ∧ (pkt s).quote ≤ 2000) ∧ (0 ≤ (pkt s).inner ∧ (pkt s).inner ≤ 3000) := by
 unfold pkt pktOf at he hk ⊢
 by_cases h : (ip4Parse s).e = 0
 rotate_left
 ·rw [if_neg h] at hk; exact absurd hk (by simp [pktNone])
 rw [if_pos h] at he hk ⊢
 have hz : (ip4Sizes s).2.2 = 0 := Classical.byContradiction fun hn => by
  unfold ip4Parse at h
  rw [if_neg hn] at h
  exact hn h
 obtain ⟨_, _, a1, _, a2, a3, a4, _⟩ := ip4Sizes_ok hz
 by_cases hf : (ip4Parse s).flags % 2 = 0 ∧ (ip4Parse s).frag = 0
 rotate_left
 ·rw [if_neg hf] at hk; exact absurd hk (by simp [pktNone])
 rw [if_pos hf] at he hk ⊢
 by_cases h1 : (ip4Parse s).proto = 1
 rotate_left
 ·rw [if_neg h1] at he hk ⊢
  by_cases hp : (ip4Parse s).proto = 6 ∨ (ip4Parse s).proto = 17
  ·rw [if_pos hp] at he hk ⊢
   unfold pktPlain at he hk ⊢
   by_cases hq : plainErr (ip4Parse s) = 0
   ·rw [if_pos hq] at hk; exact absurd (show (1 : Int) = 2 from hk) (by decide)
   rw [if_neg hq] at hk; exact absurd hk (by simp [pktNone])
  rw [if_neg hp] at hk; exact absurd hk (by simp [pktNone])
 rw [if_pos h1] at he hk ⊢
 unfold pktAbout at he hk ⊢
 by_cases ha : aboutErr (icmpParse (ip4Parse s).body) = 0
 rotate_left
 ·rw [if_neg ha] at hk; exact absurd hk (by simp [pktNone])
 rw [if_pos ha] at he hk ⊢
 obtain ⟨q, hq⟩ : ∃ q, (icmpParse (ip4Parse s).body).body = q := ⟨_, rfl⟩
 have hqe : qErr q = 0 := by
  unfold aboutErr at ha
  by_cases g1 : (icmpParse (ip4Parse s).body).e = 0
  ·rw [if_pos g1] at ha
   by_cases g2 : icmpErr (icmpParse (ip4Parse s).body).t = true
   ·rw [if_pos g2, hq] at ha; exact ha
   ·rw [if_neg g2] at ha; exact absurd ha (by decide)
  ·rw [if_neg g1] at ha; exact absurd ha g1
 unfold pktQuoted
 rw [hq]
 have hb := ip4B0_bounds q
 have hpr : byteAt q 9 = 6 ∨ byteAt q 9 = 17 := by
  unfold qErr at hqe
  revert hqe
  (repeat' split) <;> (intro hqe; first | exact absurd hqe (by decide) | omega)
 have hl : 0 ≤ ip4Len q ∧ ip4Len q ≤ 60 := by unfold ip4Len; omega
 have t1 := pt_small q 12 4
 have t2 := pt_small q 16 4
 have t3 := pt_get2 q (ip4Len q)
 have t4 := pt_get2 q (ip4Len q + 2)
 simp only
 generalize (Sp.get q (ip4Len q) 2).1 = y1 at *
 generalize (Sp.get q (ip4Len q + 2) 2).1 = y2 at *
 generalize (Sp.get q 12 4).1 = y3 at *
 generalize (Sp.get q 16 4).1 = y4 at *
 refine ⟨a1, a2, a3, a4, hpr, ⟨t1.1, by omega⟩, ⟨t2.1, by omega⟩, t3, t4, ⟨by omega, by omega⟩, ⟨by omega, by omega⟩⟩
theorem pt_w16 {n : Int} (h : 0 ≤ n ∧ n ≤ 65535) : IntKind.u16.wrap n = n := IntWalk.u16_in n h
theorem pt_w64 {n : Int} (h0 : -9223372036854775808 ≤ n) (h1 : n ≤ 9223372036854775807) : wrap64 n = n := by unfold wrap64; omega
def patch_About.f (a0 : ByteArray) (a1 a2 a3 a4 a5 a6 : Int) : Option (ByteArray × Int) := if a0.size ≤ 140737488355328 ∧ (0 ≤ a1 ∧ a1 ≤ 4294967295) ∧ (0 ≤ a2 ∧ a2 ≤ 4294967295) ∧ (0 ≤ a3 ∧ a3 ≤ 4294967295) ∧ (0 ≤ a4 ∧ a4 ≤ 4294967295) then some (lb (Sp.patchAbout (bl a0) a1 a2 a3 a4 a5 a6).1, (Sp.patchAbout (bl a0) a1 a2 a3 a4 a5 a6).2) else none
theorem patch_About_eq {a0 : ByteArray} {a1 a2 a3 a4 a5 a6 : Int} (h0 : a0.size ≤ 140737488355328) (h1 : 0 ≤ a1 ∧ a1 ≤ 4294967295) (h2 : 0 ≤ a2 ∧ a2 ≤ 4294967295) (h3 : 0 ≤ a3 ∧ a3 ≤ 4294967295) (h4 : 0 ≤ a4 ∧ a4 ≤ 4294967295) : patch_About.f a0 a1 a2 a3 a4 a5 a6 = some (lb (Sp.patchAbout (bl a0) a1 a2 a3 a4 a5 a6).1, (Sp.patchAbout (bl a0) a1 a2 a3 a4 a5 a6).2) := by unfold patch_About.f; exact if_pos ⟨h0, h1, h2, h3, h4⟩
theorem patch_About.calls (a0 : ByteArray) (a1 a2 a3 a4 a5 a6 : Int) (r1 : ByteArray) (r2 : Int) (w : World) (h : patch_About.f a0 a1 a2 a3 a4 a5 a6 = some (r1, r2)) :
  Calls Tryz.prog 7 #[.string a0, .int .u32 a1, .int .u32 a2, .agg #[.int .u32 a3, .int .u32 a4, .int .i64 a5, .int .i64 a6]] w fun e w' => e = .returned (.tuple #[.string r1, .int .i64 r2]) ∧ Below w.heap.size w w' := by
 unfold patch_About.f at h
 by_cases hd : a0.size ≤ 140737488355328 ∧ (0 ≤ a1 ∧ a1 ≤ 4294967295) ∧ (0 ≤ a2 ∧ a2 ≤ 4294967295) ∧ (0 ≤ a3 ∧ a3 ≤ 4294967295) ∧ (0 ≤ a4 ∧ a4 ≤ 4294967295)
 rotate_left
 ·rw [if_neg hd] at h; cases h
 rw [if_pos hd] at h
 obtain ⟨hs, hx, hy, hx3, hx4⟩ := hd
 simp only [Option.some.injEq, Prod.mk.injEq] at h
 obtain ⟨rfl, rfl⟩ := h
 unfold Sp.patchAbout
 by_cases hr : Sp.ready (bl a0) 2 a5 a6 = 0
 rotate_left
 ·rw [if_neg hr]
  exact pt_about_bad a0 w _ rfl a1 a2 a3 a4 a5 a6 _ _ _ _ _ _ _ _ _ _ _ _ _ _ _ hr (fun W => pt_open_no hs 2 a3 a4 a5 a6 W hr)
 rw [if_pos hr]
 obtain ⟨he, hk⟩ := pt_ready hr
 obtain ⟨n20, nt, tl, t15, hp, ts, td, tsp, tdp, tq, ti⟩ := pt_two he hk
 rw [bl_length] at tl
 have HO := fun W => pt_open_yes hs 2 a3 a4 a5 a6 W hr (by omega) tl
 obtain ⟨b0, hb0⟩ : ∃ b0, a0.extract 0 (Sp.pkt (bl a0)).total.toNat = b0 := ⟨_, rfl⟩
 have l0 : bl b0 = (bl a0).take (Sp.pkt (bl a0)).total.toNat := by rw [← hb0, bl_extract, List.drop_zero]
 rw [hb0] at HO
 have z0 : (b0.size : Int) = (Sp.pkt (bl a0)).total := by rw [← bl_length, l0, List.length_take, bl_length]; omega
 unfold Sp.turnAbout Sp.turnInner
 rw [← l0]
 have hr5 : 0 ≤ a5 ∧ a5 ≤ 65535 := by
  unfold Sp.ready at hr
  rw [if_pos he] at hr
  by_cases hq : (Sp.pkt (bl a0)).kind = 2 ∧ Sp.fits 2 a5 = true ∧ Sp.fits 2 a6 = true
  ·exact fits2.1 hq.2.1
  ·rw [if_neg hq] at hr; exact absurd hr (by decide)
 have hr6 : 0 ≤ a6 ∧ a6 ≤ 65535 := by
  unfold Sp.ready at hr
  rw [if_pos he] at hr
  by_cases hq : (Sp.pkt (bl a0)).kind = 2 ∧ Sp.fits 2 a5 = true ∧ Sp.fits 2 a6 = true
  ·exact fits2.1 hq.2.2
  ·rw [if_neg hq] at hr; exact absurd hr (by decide)
 clear hr he hk
 generalize Sp.pkt (bl a0) = p at *
 obtain ⟨kd, at_, total, pr, tsrc, tdst, osp, odp, fl, tl', xs, xd, qu, inn, er⟩ := p
 simp only at *
 subst z0
 have E1 := patch_buffer_outer_eq (s := b0) (n := at_) (x := a1) (y := a2) (by omega) (by omega) (by omega) hx hy
 obtain ⟨B1, hB1⟩ : ∃ B1, Sp.outer (bl b0) at_ a1 a2 = B1 := ⟨_, rfl⟩
 have z1 : B1.length = b0.size := by rw [← hB1, pt_outer_len, bl_length]
 rw [hB1] at E1 ⊢
 clear hB1
 have Eg := patch_buffer_get_eq (s := lb B1) (qu + 10) 2 (by rw [lb_size]; omega)
 rw [bl_lb] at Eg
 have g1 := pt_get2 B1 (qu + 10)
 unfold Sp.turnQuote Sp.moved
 simp only
 generalize (Sp.get B1 (qu + 10) 2).1 = n1 at *
 have u1 := update_bounds (c := n1) (o := tsrc / 65536) (n := a3 / 65536) g1.2 (by omega) (by omega)
 have u2 : 0 ≤ Sp.update32 n1 tsrc a3 ∧ Sp.update32 n1 tsrc a3 ≤ 65535 := update_bounds u1.2 (by omega) (by omega)
 have HU1 := fun W => cksum_Update32.calls n1 tsrc a3 _ W (cksum_Update32_eq g1 ts hx3)
 generalize Sp.update32 n1 tsrc a3 = m1 at *
 have u3 := update_bounds (c := m1) (o := tdst / 65536) (n := a4 / 65536) u2.2 (by omega) (by omega)
 have u4 : 0 ≤ Sp.update32 m1 tdst a4 ∧ Sp.update32 m1 tdst a4 ≤ 65535 := update_bounds u3.2 (by omega) (by omega)
 have HU2 := fun W => cksum_Update32.calls m1 tdst a4 _ W (cksum_Update32_eq u2 td hx4)
 generalize Sp.update32 m1 tdst a4 = c1 at *
 clear u1 u3
 have E2 := patch_buffer_put_eq (s := lb B1) (qu + 10) 2 c1 (by rw [lb_size]; omega)
 rw [bl_lb] at E2
 obtain ⟨B2, hB2⟩ : ∃ B2, Sp.bput B1 (qu + 10) 2 c1 = B2 := ⟨_, rfl⟩
 have z2 : B2.length = b0.size := by rw [← hB2, pt_len]; exact z1
 rw [hB2] at E2 ⊢
 clear hB2
 have HPl : ∀ W, Calls Tryz.prog 20 #[.int .i64 pr] W fun e w' => e = .returned (.tuple #[.int .i64 (Sp.place pr).1, .bool (Sp.place pr).2]) ∧ Below W.heap.size W w' := fun W => pseudo_Place.calls pr _ _ W (pseudo_Place_eq (by omega) (by omega))
 have hpl : 0 ≤ (Sp.place pr).1 ∧ (Sp.place pr).1 ≤ 16 := by rcases hp with rfl | rfl <;> decide
 unfold Sp.turnCheck
 simp only
 rw [Int.add_comm inn (Sp.place pr).1]
 generalize (Sp.place pr).1 = pl at *
 generalize (Sp.place pr).2 = pok at *
 have E3 := patch_buffer_get_eq (s := lb B2) (pl + inn) 2 (by rw [lb_size]; omega)
 rw [bl_lb] at E3
 have g2 := pt_get2 B2 (pl + inn)
 unfold Sp.moved Sp.movedPorts
 generalize (Sp.get B2 (pl + inn) 2).1 = n2 at *
 have u1 := update_bounds (c := n2) (o := tsrc / 65536) (n := a3 / 65536) g2.2 (by omega) (by omega)
 have u5 : 0 ≤ Sp.update32 n2 tsrc a3 ∧ Sp.update32 n2 tsrc a3 ≤ 65535 := update_bounds u1.2 (by omega) (by omega)
 have HV1 := fun W => cksum_Update32.calls n2 tsrc a3 _ W (cksum_Update32_eq g2 ts hx3)
 generalize Sp.update32 n2 tsrc a3 = m3 at *
 have u3 := update_bounds (c := m3) (o := tdst / 65536) (n := a4 / 65536) u5.2 (by omega) (by omega)
 have u6 : 0 ≤ Sp.update32 m3 tdst a4 ∧ Sp.update32 m3 tdst a4 ≤ 65535 := update_bounds u3.2 (by omega) (by omega)
 have HV2 := fun W => cksum_Update32.calls m3 tdst a4 _ W (cksum_Update32_eq u5 td hx4)
 generalize Sp.update32 m3 tdst a4 = c3 at *
 have u7 := update_bounds (c := c3) (o := osp) (n := a5) u6.2 tsp.2 hr5.1
 have HV3 := fun W => cksum_Update.calls c3 osp a5 _ W (cksum_Update_eq u6 tsp hr5)
 generalize Sp.update c3 osp a5 = c4 at *
 have u8 := update_bounds (c := c4) (o := odp) (n := a6) u7.2 tdp.2 hr6.1
 have HV4 := fun W => cksum_Update.calls c4 odp a6 _ W (cksum_Update_eq u7 tdp hr6)
 generalize Sp.update c4 odp a6 = c5 at *
 obtain ⟨c6, hc6⟩ : ∃ c6, (if pr = 17 ∧ c5 = 0 then 65535 else c5) = c6 := ⟨_, rfl⟩
 have h61 : pr = 17 ∧ c5 = 0 → c6 = 65535 := fun q => by rw [← hc6, if_pos q]
 have h62 : ¬ (pr = 17 ∧ c5 = 0) → c6 = c5 := fun q => by rw [← hc6, if_neg q]
 have u9 : 0 ≤ c6 ∧ c6 ≤ 65535 := by rw [← hc6]; split <;> omega
 rw [hc6]
 clear hc6 u1 u3
 obtain ⟨z, hz⟩ : ∃ z : Bool, decide (pr = 17 ∧ n2 = 0) = z := ⟨_, rfl⟩
 have hz1 : pr = 17 → z = (n2 == 0) := fun q => by rw [← hz]; by_cases g : n2 = 0 <;> simp [q, g]
 have hz2 : pr ≠ 17 → z = false := fun q => by rw [← hz]; simp [q]
 obtain ⟨rm, hrm⟩ : ∃ rm : Bool, decide (pl + inn + 2 ≤ ((lb B2).size : Int)) = rm := ⟨_, rfl⟩
 have E4' := patch_buffer_put_eq (s := lb B2) (pl + inn) 2 c6 (by rw [lb_size]; omega)
 rw [bl_lb] at E4'
 obtain ⟨B3, hB3⟩ : ∃ B3, (if pl + inn + 2 ≤ (B2.length : Int) ∧ ¬ (pr = 17 ∧ n2 = 0) then Sp.bput B2 (pl + inn) 2 c6 else B2) = B3 := ⟨_, rfl⟩
 have z3 : B3.length = b0.size := by rw [← hB3]; split <;> (try rw [pt_len]) <;> exact z2
 have hrz : (rm && !z) = true ↔ (pl + inn + 2 ≤ (B2.length : Int) ∧ ¬ (pr = 17 ∧ n2 = 0)) := by
  rw [← hrm, ← hz, lb_size, Bool.and_eq_true, decide_eq_true_eq, Bool.not_eq_true', decide_eq_false_iff_not]
 have E4 : (rm && !z) = true → patch_buffer_put.f (lb B2) (pl + inn) 2 c6 = some (lb B3) := fun q => by rw [E4', ← hB3, if_pos (hrz.1 q)]
 have E4n : (rm && !z) = false → lb B3 = lb B2 := fun q => by rw [← hB3, if_neg (fun g => by rw [hrz.2 g] at q; cases q)]
 rw [hB3]
 clear hB3 hrz E4' hz
 have E5 := patch_buffer_put_eq (s := lb B3) (qu + 12) 4 a3 (by rw [lb_size]; omega)
 rw [bl_lb] at E5
 obtain ⟨B4, hB4⟩ : ∃ B4, Sp.bput B3 (qu + 12) 4 a3 = B4 := ⟨_, rfl⟩
 have z4 : B4.length = b0.size := by rw [← hB4, pt_len]; exact z3
 rw [hB4] at E5 ⊢
 clear hB4
 have E6 := patch_buffer_put_eq (s := lb B4) (qu + 16) 4 a4 (by rw [lb_size]; omega)
 rw [bl_lb] at E6
 obtain ⟨B5, hB5⟩ : ∃ B5, Sp.bput B4 (qu + 16) 4 a4 = B5 := ⟨_, rfl⟩
 have z5 : B5.length = b0.size := by rw [← hB5, pt_len]; exact z4
 rw [hB5] at E6 ⊢
 clear hB5
 have E7 := patch_buffer_put_eq (s := lb B5) (inn) 2 a5 (by rw [lb_size]; omega)
 rw [bl_lb] at E7
 obtain ⟨B6, hB6⟩ : ∃ B6, Sp.bput B5 (inn) 2 a5 = B6 := ⟨_, rfl⟩
 have z6 : B6.length = b0.size := by rw [← hB6, pt_len]; exact z5
 rw [hB6] at E7 ⊢
 clear hB6
 have E8 := patch_buffer_put_eq (s := lb B6) (inn + 2) 2 a6 (by rw [lb_size]; omega)
 rw [bl_lb] at E8
 obtain ⟨B7, hB7⟩ : ∃ B7, Sp.bput B6 (inn + 2) 2 a6 = B7 := ⟨_, rfl⟩
 have z7 : B7.length = b0.size := by rw [← hB7, pt_len]; exact z6
 rw [hB7] at E8 ⊢
 clear hB7
 have E9 := patch_buffer_check_eq (s := lb B7) (a := at_ + 2) (f := at_) (t := (lb B7).size) (by rw [lb_size]; omega) (by omega) (by rw [lb_size]; omega) (by omega)
 rw [bl_lb] at E9
 have zz : ((lb B7).size : Int) = b0.size := by rw [lb_size, z7]
 rw [zz] at E9
 have w1 := pt_w64 (n := qu + 10) (by omega) (by omega)
 have w2 := pt_w64 (n := qu + 12) (by omega) (by omega)
 have w3 := pt_w64 (n := qu + 16) (by omega) (by omega)
 have w4 := pt_w64 (n := pl + inn) (by omega) (by omega)
 have w5 := pt_w64 (n := pl + inn + 2) (by omega) (by omega)
 have w6 := pt_w64 (n := inn + 2) (by omega) (by omega)
 have w7 := pt_w64 (n := at_ + 2) (by omega) (by omega)
 have w8 := pt_w64 (n := c1) (by omega) (by omega)
 have w9 := pt_w64 (n := c6) (by omega) (by omega)
 have w10 := pt_w64 (n := a3) (by omega) (by omega)
 have w11 := pt_w64 (n := a4) (by omega) (by omega)
 refine pt_about_ok a0 w _ rfl a1 a2 a3 a4 a5 a6 _ _ _ _ _ _ _ _ _ _ _ _ _ _ b0 (lb B1) (lb B2) (lb B3) (lb B4) (lb B5) (lb B6) (lb B7) _ HO E1 n1 m1 c1 (by rw [w1]; exact Eg) (by rw [pt_w16 g1]; exact HU1) HU2 (by rw [w1, w8]; exact E2) pl pok HPl n2 (by rw [w4]; exact E3) z hz1 hz2 rm (by rw [w4, w5]; exact hrm) m3 c3 c4 c5 c6 (by rw [pt_w16 g2]; exact HV1) HV2 (by rw [pt_w16 tsp, pt_w16 hr5]; exact HV3) (by rw [pt_w16 tdp, pt_w16 hr6]; exact HV4) h61 h62 (by rw [w4]; exact E4) w9 E4n (by rw [w2, w10]; exact E5) (by rw [w3, w11]; exact E6) E7 (by rw [w6]; exact E8) (by rw [w7, zz]; exact E9)

end Go.Proofs.YtfnjohklmpiboaaGreat.Pr
