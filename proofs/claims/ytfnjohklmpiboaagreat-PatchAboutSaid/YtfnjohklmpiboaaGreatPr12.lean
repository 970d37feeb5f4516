-- Written by a program of the session (wip/tools) out of the translation, over the kit's print; with pieces of the session's own.
import Derived.Test.YtfnjohklmpiboaaGreatPr0
namespace Go.Proofs.YtfnjohklmpiboaaGreat.Pr
open Go.RowKit Go.Proofs.YtfnjohklmpiboaaGreatW.PrintWords Go.Proofs.YtfnjohklmpiboaaGreatW.PrintLast Go.Proofs.YtfnjohklmpiboaaGreatW.PrintMore
attribute [local go_sem] max2_int min2_int max_two min_two max_three min_three max_four min_four   -- for this text's walks alone
set_option linter.unusedVariables false
set_option linter.unusedSimpArgs false
open Go.Proofs.YtfnjohklmpiboaaGreat.Sp
/-! ### cksum_Fold_p: function 63 -/
def cksum_Fold_p.l0 : Nat → Int → Option (Int)
 | 0, _ => none
 | k + 1, x0 => if x0 > 65535 then (cksum_Fold_p.l0 k (IntKind.u64.wrap ((Go.bits .and .u64 x0 65535) + (x0 / 65536)))) else (some (IntKind.u16.wrap (x0)))
def cksum_Fold_p.f (k : Nat) (a0 : Int) : Option (Int) := cksum_Fold_p.l0 k a0
theorem cksum_Fold_p.mono_l : ∀ k, (∀ y0, LeO (cksum_Fold_p.l0 k y0) (cksum_Fold_p.l0 (k + 1) y0))
 | 0 => fun _ r h => by simp [cksum_Fold_p.l0] at h
 | k + 1 => by
  have ih0 := cksum_Fold_p.mono_l k
  ·intro y0
   unfold cksum_Fold_p.l0
   repeat' first
   | (with_reducible exact ih0 _)
   | (with_reducible exact LeO.refl _)
   | (with_reducible exact LeO.none _)
   | (with_reducible refine LeO.ite ?_ ?_)
   | (with_reducible refine LeO.bind ?_ (fun _ => ?_))
   | exact ih0 _
   | exact LeO.none _
   | refine LeO.ite ?_ ?_
   | refine LeO.bind ?_ (fun _ => ?_)
theorem cksum_Fold_p.mono : ∀ a0 k, LeO (cksum_Fold_p.f k a0) (cksum_Fold_p.f (k + 1) a0) := by
 intro a0 k
 have ih0 := cksum_Fold_p.mono_l k
 unfold cksum_Fold_p.f
 repeat' first
   | (with_reducible exact ih0 _)
   | (with_reducible exact LeO.refl _)
   | (with_reducible exact LeO.none _)
   | (with_reducible refine LeO.ite ?_ ?_)
   | (with_reducible refine LeO.bind ?_ (fun _ => ?_))
   | exact ih0 _
   | exact LeO.none _
   | refine LeO.ite ?_ ?_
   | refine LeO.bind ?_ (fun _ => ?_)
set_option maxHeartbeats 8000000 in
set_option maxRecDepth 100000 in
theorem cksum_Fold_p.calls (k : Nat) (a0 : Int) (r : Int) (w : World) (h : cksum_Fold_p.f k a0 = some r) :
  Calls Tryz.prog 63 #[.int .u64 a0] w fun e w' => e = .returned (.int .u16 r) ∧ Drawn0 w w' := by
 have H : (cksum_Fold_p.l0 k a0) = some r := h
 clear h
 have H' := AA H
 clear H
 go_enter Tryz.func63, Tryz.ntmps63
 go_wp2
 go_loopg [0] k (fun kq v0 w' => ∃ (x0_1 : Int), v0 = .int .u64 x0_1 ∧ Aside0 (cksum_Fold_p.l0 kq x0_1 = some r) ∧ Aside0 (kq ≤ k) ∧ Drawn0 w w')
 case atStart => exact ⟨(a0), (RS), H', ⟨Nat.le_refl _⟩, DW⟩
 case round =>
  clear H'
  obtain ⟨x0_1, rfl, HA, HK1, ⟨m1, rfl⟩⟩ := hrel
  cases gk with
  | zero => exact absurd HA.out (by simp [cksum_Fold_p.l0])
  | succ k1 =>
   have H := HA.out
   clear HA
   simp only [cksum_Fold_p.l0] at H
   by_cases c2 : x0_1 > 65535
   ·rw [if_pos c2] at H
    have c2b0 : decide (65535 < x0_1) = true := decide_eq_true c2
    clear c2
    have H' := AA H
    clear H
    go_wp2
    go_roundg k1
    case measure => have := HK1.out; omega
    case rel => exact ⟨(IntKind.u64.wrap ((Go.bits .and .u64 x0_1 65535) + (x0_1 / 65536))), QS, H', ⟨by have := HK1.out; omega⟩, DW⟩
   rw [if_neg c2] at H
   have c2b0 : decide (65535 < x0_1) = false := decide_eq_false c2
   clear c2
   obtain rfl := Option.some.inj H
   go_wp2
   go_ret
   exact ⟨RS, DW⟩

theorem Fold_ev (d : Nat) : ∀ n : Int, 0 ≤ n → n ≤ 18446744073709551615 → n.toNat ≤ d → ∃ k, cksum_Fold_p.f k n = some (Sp.fold16 n) := by
 induction d with
 | zero =>
  intro n h0 h1 hd
  refine ⟨1, ?_⟩
  simp only [cksum_Fold_p.f, cksum_Fold_p.l0]
  rw [if_neg (by omega), wrap_u16 h0 (by omega), Sp.fold16_small h0 (by omega)]
 | succ d ih =>
  intro n h0 h1 hd
  by_cases h : n > 65535
  ·obtain ⟨k, hk⟩ := ih (n % 65536 + n / 65536) (by omega) (by omega) (by omega)
   refine ⟨k + 1, ?_⟩
   simp only [cksum_Fold_p.f, cksum_Fold_p.l0] at hk ⊢
   rw [if_pos h, and_low h0 h1, wrap_u64 (by omega) (by omega), hk, Sp.fold16_step (by omega)]
  refine ⟨1, ?_⟩
  simp only [cksum_Fold_p.f, cksum_Fold_p.l0]
  rw [if_neg h, wrap_u16 h0 (by omega), Sp.fold16_small h0 (by omega)]
def cksum_Fold.f (a0 : Int) : Option Int := if 0 ≤ a0 ∧ a0 ≤ 18446744073709551615 then some (Sp.fold16 a0) else none
theorem cksum_Fold_eq {a0 : Int} (h0 : 0 ≤ a0) (h1 : a0 ≤ 18446744073709551615) : cksum_Fold.f a0 = some (Sp.fold16 a0) := by unfold cksum_Fold.f; rw [if_pos ⟨h0, h1⟩]
theorem cksum_Fold.calls (a0 : Int) (r : Int) (w : World) (h : cksum_Fold.f a0 = some r) :
  Calls Tryz.prog 63 #[.int .u64 a0] w fun e w' => e = .returned (.int .u16 r) ∧ Drawn0 w w' := by
 unfold cksum_Fold.f at h
 split at h
 case isFalse => cases h
 case isTrue hs =>
  obtain ⟨k, hk⟩ := Fold_ev a0.toNat a0 hs.1 hs.2 (Nat.le_refl _)
  rw [Option.some.inj h] at hk
  exact cksum_Fold_p.calls k a0 r w hk
/-! ### cksum_Sum: function 64 -/
section
attribute [local go_sem] Oper.semAt_some
set_option maxHeartbeats 1000000 in
theorem words_in (F : Fence) (n : Nat) (hf : F.fn 94) (hro : F.round = none) (s : ByteArray) (w : World) :
  CallsIn F n Tryz.prog 94 #[.string s] w fun e w' => e = .returned (.func (.func 103) #[] #[.pointer (some ⟨w.heap.size, 0, none⟩)]) ∧ w' = w.alloc (.cells #[.string s] 9) := by
 refine callsIn_of_wp Tryz.func94 rfl hf ?_ hro
 simp only [Tryz.ntmps94, List.size_toArray, List.length_cons, List.length_nil, Nat.reduceAdd, Nat.reduceSub, Array.replicate_succ, Array.replicate_zero, List.push_toArray, List.append_toArray, List.nil_append, List.cons_append]
 gi_wp2
 go_ret
 exact ⟨rfl, rfl⟩
theorem wl_take_succ (l : List UInt8) (k : Nat) (x : UInt16) (h : (Sp.wl l)[k]? = some x) : (Sp.wl l).take (k + 1) = (Sp.wl l).take k ++ [x] := by
 obtain ⟨hk, e⟩ := List.getElem?_eq_some_iff.1 h
 rw [List.take_succ_eq_append_getElem hk, e]
theorem word_two (s : ByteArray) (k i : Nat) (hi : i = 2 * k) (h : i + 1 < s.size) : ∃ (x : UInt16) (a b : Int), (Sp.wl (bl s))[k]? = some x ∧ (x.toNat : Int) = a * 256 + b ∧ 0 ≤ a ∧ a ≤ 255 ∧ 0 ≤ b ∧ b ≤ 255 ∧
  (∀ h : i < s.size, ((s[i]'h).toNat : Int) = a) ∧ (∀ h : i + 1 < s.size, ((s[i + 1]'h).toNat : Int) = b) := by
 subst hi
 have h1 : 2 * k + 1 < (bl s).length := by simpa using h
 have ha := ((bl s)[2 * k]'(by omega)).toNat_lt
 have hb := ((bl s)[2 * k + 1]'h1).toNat_lt
 refine ⟨_, ((bl s)[2 * k]'(by omega)).toNat, ((bl s)[2 * k + 1]'h1).toNat, Sp.wl_get_two (bl s) k h1, ?_, by omega, by omega, by omega, by omega, ?_, ?_⟩
 ·rw [UInt16.toNat_ofNat']; omega
 ·intro h2; rfl
 intro h2; rfl
theorem word_one (s : ByteArray) (k i : Nat) (hi : i = 2 * k) (h : i < s.size) (h2 : ¬ i + 1 < s.size) : ∃ (x : UInt16) (a : Int), (Sp.wl (bl s))[k]? = some x ∧ (x.toNat : Int) = a * 256 ∧ 0 ≤ a ∧ a ≤ 255 ∧
  (∀ h : i < s.size, ((s[i]'h).toNat : Int) = a) := by
 subst hi
 have h1 : 2 * k < (bl s).length := by simpa using h
 have ha := ((bl s)[2 * k]'(by omega)).toNat_lt
 refine ⟨_, ((bl s)[2 * k]'h1).toNat, Sp.wl_get_one (bl s) k h1 (by simpa using h2), ?_, by omega, by omega, ?_⟩
 ·rw [UInt16.toNat_ofNat']; omega
 intro h2; rfl
set_option maxRecDepth 100000 in
set_option maxHeartbeats 2000000 in
theorem words1_in (F : Fence) (n : Nat) (hf : F.fn 103) (hro : F.round = none) (hn : 1 ≤ n) (l Bs : Nat) (s : ByteArray) (hs : s.size ≤ 281474976710656) (J Jx : List UInt16 → World → Prop)
  (hY : ∀ pre x W, J pre W → pre.length < (s.size + 1) / 2 → YieldAt F (n - 1) Tryz.prog l #[.int .i64 (x.toNat : Int)] W fun e W' =>
   (e = .returned (.bool true) ∧ J (pre ++ [x]) W' ∧ KeepsAt Bs (.cells #[.string s] 9 (0, 0)) W W') ∨ (e = .returned (.bool false) ∧ Jx (pre ++ [x]) W'))
  (W : World) (hBs : W.heap[Bs]? = some (.cells #[.string s] 9 (0, 0))) (h0 : J [] W) :
  CallsIn F n Tryz.prog 103 #[.func (.yield l) #[] #[], .pointer (some ⟨Bs, 0, none⟩)] W fun e W' => (∃ v, e = .returned v) ∧
   ((∃ ys, ys = Sp.wl (bl s) ∧ J ys W') ∨ (∃ pre, pre <+: Sp.wl (bl s) ∧ Jx pre W')) := by
 have hlen := Sp.wl_length (bl s)
 rw [bl_length] at hlen
 refine callsIn_of_wp Tryz.func103 rfl hf ?_ hro
 simp only [Tryz.ntmps103, List.size_toArray, List.length_cons, List.length_nil, Nat.reduceAdd, Nat.reduceSub, Array.replicate_succ, Array.replicate_zero, List.push_toArray, List.append_toArray, List.nil_append, List.cons_append]
 have HL := Lib.hid hlen
 have HB := Lib.hid hBs
 clear hlen hBs
 gi_wp2
 gi_loopw [3] (fun i wr => ∃ k j : Nat, Hid (j = 2 * k) ∧ j ≤ s.size + 1 ∧ i = .int .i64 (j : Int) ∧ J ((Sp.wl (bl s)).take k) wr ∧ Hid (wr.heap[Bs]? = some (.cells #[.string s] 9 (0, 0))))
  (fun i _ => s.size + 1 - (intOf i).toNat)
 case atStart => exact ⟨0, 0, rfl, by omega, rfl, h0, HB⟩
 case round =>
  obtain ⟨k, i, HI, hk, rfl, hJs, hbx⟩ := hrel
  have hcx := str_box hbx.out
  by_cases hlt : i < s.size
  rotate_left
  ·gi_wp2
   go_end0
   exact ⟨⟨_, rfl⟩, .inl ⟨_, by rw [List.take_of_length_le (by have := HL.out; have := HI.out; omega)], hJs⟩⟩
  by_cases h2 : i + 1 < s.size
  ·obtain ⟨x, a, b, hw, hx, ha0, ha1, hb0, hb1, hx1, hx2⟩ := word_two s k i HI.out h2
   obtain ⟨fn, tmps, assign, body, hy, hR⟩ := hY _ x wr hJs (by have := HL.out; have := HI.out; rw [List.length_take]; omega)
   rw [hx] at hy
   have HW := Lib.hid (wl_take_succ _ _ _ hw)
   have hor := bits_byte (x := a) (y := b) (by omega) (by omega) (by omega) (by omega)
   have hix : wrap64 ((i : Int) + 1) = (i : Int) + 1 := wrap_id (by omega) (by omega)
   clear hw hx
   gi_wp2
   refine hR.mono ?_
   rintro e W3 (⟨rfl, hJ3, hk3⟩ | ⟨rfl, hJx3⟩)
   ·have HB3 := Lib.hid (hk3 hbx.out)
    clear hk3
    gi_wp2
    go_roundw
    case rel => exact ⟨k + 1, i + 2, by show i + 2 = 2 * (k + 1); have := HI.out; omega, by omega, by simp, by rw [HW.out]; exact hJ3, HB3⟩
    case measure => simp [intOf]; omega
   gi_wp2
   refine bodyPost_ret (results_none rfl _ _ _) rfl ?_
   exact ⟨⟨_, rfl⟩, .inr ⟨_, by rw [← HW.out]; exact List.take_prefix _ _, hJx3⟩⟩
  obtain ⟨x, a, hw, hx, ha0, ha1, hx1⟩ := word_one s k i HI.out hlt h2
  obtain ⟨fn, tmps, assign, body, hy, hR⟩ := hY _ x wr hJs (by have := HL.out; have := HI.out; rw [List.length_take]; omega)
  rw [hx] at hy
  have HW := Lib.hid (wl_take_succ _ _ _ hw)
  have hix : wrap64 ((i : Int) + 1) = (i : Int) + 1 := wrap_id (by omega) (by omega)
  clear hw hx
  gi_wp2
  refine hR.mono ?_
  rintro e W3 (⟨rfl, hJ3, hk3⟩ | ⟨rfl, hJx3⟩)
  ·have HB3 := Lib.hid (hk3 hbx.out)
   clear hk3
   gi_wp2
   go_roundw
   case rel => exact ⟨k + 1, i + 2, by show i + 2 = 2 * (k + 1); have := HI.out; omega, by omega, by simp, by rw [HW.out]; exact hJ3, HB3⟩
   case measure => simp [intOf]; omega
  gi_wp2
  refine bodyPost_ret (results_none rfl _ _ _) rfl ?_
  exact ⟨⟨_, rfl⟩, .inr ⟨_, by rw [← HW.out]; exact List.take_prefix _ _, hJx3⟩⟩
theorem words_stops (F : Fence) (n : Nat) (hf : F.fn 103) (hro : F.round = none) (hn : 1 ≤ n) (Bs : Nat) (s : ByteArray) (hs : s.size ≤ 281474976710656) (w : World) (hBs : w.heap[Bs]? = some (.cells #[.string s] 9 (0, 0))) :
  SeqStopsK F n Tryz.prog 103 #[.pointer (some ⟨Bs, 0, none⟩)] (fun x : UInt16 => #[Value.int .i64 (x.toNat : Int)]) (KeepsAt Bs (.cells #[.string s] 9 (0, 0))) (fun ys => ys = Sp.wl (bl s)) (fun pre => pre <+: Sp.wl (bl s)) ((s.size + 1) / 2) w := fun l J Jx W hW _ _ hY h0 =>
 words1_in F n hf hro hn l Bs s hs J Jx hY W ((hW.block Bs (Array.getElem?_eq_some_iff.1 hBs).1).trans hBs) h0
theorem Fold_any (n : Int) (w : World) (h0 : 0 ≤ n) (h1 : n ≤ 18446744073709551615) :
  Calls Tryz.prog 63 #[.int .u64 n] w fun e w' => e = .returned (.int .u16 (Sp.fold16 n)) ∧ Below w.heap.size w w' :=
 (cksum_Fold.calls n _ w (cksum_Fold_eq h0 h1)).mono fun e w' h => ⟨h.1, h.2.below⟩
set_option maxRecDepth 100000 in
set_option maxHeartbeats 2000000 in
theorem Sum_in (s : ByteArray) (w : World) (hs : s.size ≤ 281474976710656) :
  CallsIn Fence.wide 4 Tryz.prog 64 #[.string s] w fun e w' => e = .returned (.int .u16 (Sp.sum (bl s))) ∧ Below w.heap.size w w' := by
 refine callsIn_of_wp_marks Tryz.func64 rfl trivial ?_ rfl
 simp only [Tryz.ntmps64, List.size_toArray, List.length_cons, List.length_nil, Nat.reduceAdd, Nat.reduceSub, Array.replicate_succ, Array.replicate_zero, List.push_toArray, List.append_toArray, List.nil_append, List.cons_append]
 gi_wp2_with (refine ⟨trivial, ?_⟩; gi_at_call 94; refine (words_in Fence.wide _ trivial rfl _ _).mono ?_; rintro e w2 ⟨rfl, rfl⟩)
 have hs' := cell_new_l w (.int .u64 0) 91
 have hb : ((w.alloc (.cells #[.int .u64 0] 91)).alloc (.cells #[.string s] 9)).heap[w.heap.size + 1]? = some (.cells #[.string s] 9 (0, 0)) := by
  have := World.alloc_heap_new (w.alloc (.cells #[.int .u64 0] 91)) (.cells #[.string s] 9)
  rwa [World.size_alloc] at this
 have hB0 : Below w.heap.size w ((w.alloc (.cells #[.int .u64 0] 91)).alloc (.cells #[.string s] 9)) := ((Below.refl _ w).alloc (Nat.le_refl _) _).alloc (by simp) _
 have HL := Lib.hid (Sp.wl_length (bl s))
 refine wpIn_rangeFunc_ownF rfl (by decide) (gf := 103) (lb := #[.pointer (some ⟨w.heap.size + 1, 0, none⟩)]) rfl trivial (enters_of Tryz.func103 (by kernel_rfl) rfl)
  (words_stops Fence.wide 3 trivial rfl (by decide) (w.heap.size + 1) s hs _ hb) keepsAt_t (keepsAt_b rfl) (Below.refl _ _) (fun _ => rfl)
  (fun pre W => (W.cell? ⟨w.heap.size, 0, none⟩ = some (.int .u64 (Sp.wsum pre)) ∧ W.frozen? ⟨w.heap.size, 0, none⟩ = false) ∧ Below w.heap.size w W)
  (fun _ _ _ => False)
  (OwnFrom.and (Own.from (fun s A B row hs hg hr => ⟨cell_kept hs.1 hg hr, (frozen_kept hs.1 hg hr).trans hs.2⟩) _) (ownFrom_below (Nat.le_refl _) (by simp; omega)))
  (fun _ _ _ _ _ hs _ _ => hs)
  ⟨⟨cell_alloc_l _ hs'.1, frozen_alloc_l _ hs'.1 hs'.2⟩, hB0⟩
  (fun x => { tmps := #[.string s, undef, .int .u16 0, .pointer (some ⟨w.heap.size, 0, none⟩), .int .i64 (x.toNat : Int), .string s, .func (.func 103) #[] #[.pointer (some ⟨w.heap.size + 1, 0, none⟩)], .int .i64 (x.toNat : Int), undef, undef, undef, undef, undef, undef], defers := [] }) ?assign ?body ?done ?stop
 case assign =>
  intro l x W K hK
  gi_wp2
  exact hK
 case body =>
  rintro l pre x W ⟨⟨hc, hf⟩, hB⟩ hlen
  have hbd := Sp.wsum_bounds pre
  have hx := x.toNat_lt
  have hw1 : IntKind.u64.wrap (x.toNat : Int) = (x.toNat : Int) := wrap_u64 (by omega) (by omega)
  have hw2 : IntKind.u64.wrap (Sp.wsum pre + (x.toNat : Int)) = Sp.wsum pre + (x.toNat : Int) := wrap_u64 (by omega) (by omega)
  gi_wp2
  exact ⟨KeepsOthers.setCell _ _ _, keepsAt_set _ (by simp), ⟨by rw [Sp.wsum_snoc]; exact World.cell?_setCell_same' _ _ _ (by rw [hc]; rfl), by rw [World.frozen?_setCell]; exact hf⟩, hB.setCell (p := ⟨w.heap.size, 0, none⟩) (Nat.le_refl _) _⟩
 case done =>
  rintro D ys W hDD rfl ⟨⟨hc, _⟩, hB⟩ hK
  have hbd := Sp.wsum_bounds (Sp.wl (bl s))
  have hl := HL.out
  rw [bl_length] at hl
  rw [hl] at hbd
  have HF := Lib.hid (Fold_any (Sp.wsum (Sp.wl (bl s))) W hbd.1 (by omega))
  have HB := Lib.hid hB
  clear hl hbd hB
  gi_wp2_with (refine ⟨trivial, ?_⟩; gi_at_call 63; refine (callsIn_wide.2 HF.out).mono ?_; rintro e w3 ⟨rfl, h3⟩; have H3 := Lib.hid h3; clear h3)
  have hK3 : w3.heap[D]? = some (.deferred (some [])) := (H3.out.block D (Array.getElem?_eq_some_iff.1 hK).1).trans hK
  refine ⟨by simp, .inl ⟨_, _, rfl, run_takeDeferred hK3, ?_⟩⟩
  exact ⟨_, results_tmp rfl _ _ _, rfl, (below_step HB.out H3.out).trans (belowK_b (w := w) (Nat.le_refl _) w3 D _ _ (by simp at hDD; omega) hK3 rfl rfl)⟩
 case stop =>
  rintro D c pre W _ _ h _
  exact h.elim
end
def cksum_Sum.f (a0 : ByteArray) : Option Int := if a0.size ≤ big then some (Sp.sum (bl a0)) else none
theorem cksum_Sum_eq {a0 : ByteArray} (h : a0.size ≤ 281474976710656) : cksum_Sum.f a0 = some (Sp.sum (bl a0)) := by unfold cksum_Sum.f; exact if_pos h
theorem cksum_Sum.calls (a0 : ByteArray) (r : Int) (w : World) (h : cksum_Sum.f a0 = some r) :
  Calls Tryz.prog 64 #[.string a0] w fun e w' => e = .returned (.int .u16 r) ∧ Below w.heap.size w w' := by
 unfold cksum_Sum.f at h
 split at h
 case isFalse => cases h
 case isTrue hs =>
  obtain rfl := Option.some.inj h
  exact callsIn_wide.1 (Sum_in a0 w hs)
/-! ### cksum_Check_p: function 43 -/
def cksum_Check_p.f (a0 : ByteArray) : Option (Int) := (cksum_Sum.f a0).bind fun t229 => (some (Go.bits .xor .u16 65535 t229))
set_option maxHeartbeats 8000000 in
set_option maxRecDepth 100000 in
theorem cksum_Check_p.calls (a0 : ByteArray) (r : Int) (w : World) (h : cksum_Check_p.f a0 = some r) :
  Calls Tryz.prog 43 #[.string a0] w fun e w' => e = .returned (.int .u16 r) ∧ Below w.heap.size w w' := by
 have HB := AA (Below.refl w.heap.size w)
 have H : ((cksum_Sum.f a0).bind fun t229 => (some (Go.bits .xor .u16 65535 t229))) = some r := h
 clear h
 replace H := OB H
 obtain ⟨t229, A2, H⟩ := H
 (try set_option simprocs false in dsimp only at H)
 obtain rfl := Option.some.inj H
 go_enter Tryz.func43, Tryz.ntmps43
 go_wp2_with (first | ((with_reducible refine gkx 64 rfl ?_); refine gL 4 Tryz.func64 rfl (cksum_Sum.calls a0 t229 _ A2.out) ?_; rintro w3 hb; (try clear A2); replace HB := BS HB hb; (try clear hb)))
 go_ret
 exact ⟨RT, BW HB⟩

theorem not16 {x : Int} (h0 : 0 ≤ x) (h1 : x ≤ 65535) : Go.bits .xor .u16 65535 x = 65535 - x := by
 obtain ⟨a, rfl⟩ := Int.eq_ofNat_of_zero_le h0
 have ha : a < 65536 := by omega
 have e : BitVec.ofInt 16 65535 = BitVec.allOnes 16 := by decide
 show IntKind.u16.wrap (((BitVec.ofInt 16 65535 ^^^ BitVec.ofInt 16 (a : Int)).toNat : Nat) : Int) = 65535 - (a : Int)
 rw [e, BitVec.ofInt_natCast, BitVec.allOnes_xor, BitVec.toNat_not, BitVec.toNat_ofNat, Nat.mod_eq_of_lt (show a < 2 ^ 16 from ha), wrap_u16 (by omega) (by omega)]
 omega
def cksum_Check.f (a0 : ByteArray) : Option Int := if a0.size ≤ big then some (Sp.check (bl a0)) else none
theorem cksum_Check_eq {a0 : ByteArray} (h : a0.size ≤ 281474976710656) : cksum_Check.f a0 = some (Sp.check (bl a0)) := by unfold cksum_Check.f; exact if_pos h
theorem cksum_Check.calls (a0 : ByteArray) (r : Int) (w : World) (h : cksum_Check.f a0 = some r) :
  Calls Tryz.prog 43 #[.string a0] w fun e w' => e = .returned (.int .u16 r) ∧ Below w.heap.size w w' := by
 unfold cksum_Check.f at h
 split at h
 case isFalse => cases h
 case isTrue hs =>
  refine cksum_Check_p.calls a0 r w ?_
  unfold cksum_Check_p.f
  have hb := Sp.sum_bounds (bl a0)
  rw [cksum_Sum_eq hs, Option.bind_some, not16 hb.1 hb.2]
  exact h
/-! ### cksum_Join_p: function 42 -/
def cksum_Join_p.l0 : Nat → Int → List Int → Int → Int → Option (Int)
 | 0, _, _, _, _ => none
 | k + 1, x3, x6, x7, x8 => if x8 < x7 then (if 0 ≤ x8 then (if x8 < (x6.length : Int) then (cksum_Join_p.l0 k (IntKind.u64.wrap (x3 + (IntKind.u64.wrap (rd x6 x8)))) x6 x7 (wrap64 (x8 + 1))) else (none)) else (none)) else ((cksum_Fold.f x3).bind fun t244 => (some t244))
def cksum_Join_p.f (k : Nat) (l0 : List Int) : Option (Int) := cksum_Join_p.l0 k 0 l0 (l0.length : Int) 0
theorem cksum_Join_p.mono_l : ∀ k, (∀ y0 y1 y2 y3, LeO (cksum_Join_p.l0 k y0 y1 y2 y3) (cksum_Join_p.l0 (k + 1) y0 y1 y2 y3))
 | 0 => fun _ _ _ _ r h => by simp [cksum_Join_p.l0] at h
 | k + 1 => by
  have ih0 := cksum_Join_p.mono_l k
  ·intro y0 y1 y2 y3
   unfold cksum_Join_p.l0
   repeat' first
   | (with_reducible exact ih0 _ _ _ _)
   | (with_reducible exact LeO.refl _)
   | (with_reducible exact LeO.none _)
   | (with_reducible refine LeO.ite ?_ ?_)
   | (with_reducible refine LeO.bind ?_ (fun _ => ?_))
   | exact ih0 _ _ _ _
   | exact LeO.none _
   | refine LeO.ite ?_ ?_
   | refine LeO.bind ?_ (fun _ => ?_)
theorem cksum_Join_p.mono : ∀ a0 k, LeO (cksum_Join_p.f k a0) (cksum_Join_p.f (k + 1) a0) := by
 intro a0 k
 have ih0 := cksum_Join_p.mono_l k
 unfold cksum_Join_p.f
 repeat' first
   | (with_reducible exact ih0 _ _ _ _)
   | (with_reducible exact LeO.refl _)
   | (with_reducible exact LeO.none _)
   | (with_reducible refine LeO.ite ?_ ?_)
   | (with_reducible refine LeO.bind ?_ (fun _ => ?_))
   | exact ih0 _ _ _ _
   | exact LeO.none _
   | refine LeO.ite ?_ ?_
   | refine LeO.bind ?_ (fun _ => ?_)
set_option maxHeartbeats 8000000 in
set_option maxRecDepth 100000 in
theorem cksum_Join_p.calls (k : Nat) (A0 : Option Addr) (c0 : Nat) (l0 : List Int) (r : Int) (w : World) (hr0 : Kd.C (Kd.int .u16) w A0 l0.length l0) (hc0 : l0.length ≤ c0) (h : cksum_Join_p.f k l0 = some r) :
  Calls Tryz.prog 42 #[.slice A0 l0.length c0] w fun e w' => e = .returned (.int .u16 r) ∧ Drawn0 w w' := by
 have HR0 := AA hr0
 have HC0 := AA hc0
 clear hr0 hc0
 have H : (cksum_Join_p.l0 k 0 l0 (l0.length : Int) 0) = some r := h
 clear h
 have H' := AA H
 clear H
 go_enter Tryz.func42, Tryz.ntmps42
 go_wp2
 go_loopg [3, 8] k (fun kq v3 v8 w' => ∃ (x3_1 : Int) (x8_1 : Int), v3 = .int .u64 x3_1 ∧ v8 = .int .i64 x8_1 ∧ Aside0 (cksum_Join_p.l0 kq x3_1 l0 (l0.length : Int) x8_1 = some r) ∧ Aside0 (kq ≤ k) ∧ Drawn0 w w')
 case atStart => exact ⟨(0), (0), (RS), (RS), H', ⟨Nat.le_refl _⟩, DW⟩
 case round =>
  clear H'
  obtain ⟨x3_1, x8_1, rfl, rfl, HA, HK1, ⟨m1, rfl⟩⟩ := hrel
  cases gk with
  | zero => exact absurd HA.out (by simp [cksum_Join_p.l0])
  | succ k1 =>
   have H := HA.out
   clear HA
   simp only [cksum_Join_p.l0] at H
   by_cases c2 : x8_1 < (l0.length : Int)
   rotate_left
   ·rw [if_neg c2] at H
    have c2b0 := decide_eq_false c2
    clear c2
    replace H := OB H
    obtain ⟨t244, A5, H⟩ := H
    (try set_option simprocs false in dsimp only at H)
    obtain rfl := Option.some.inj H
    go_wp2_with (first | ((with_reducible refine gkx 63 rfl ?_); refine gL 18 Tryz.func63 rfl (cksum_Fold.calls x3_1 t244 _ A5.out) ?_; rintro w' ⟨nd, rfl⟩))
    go_ret
    exact ⟨RS, DW⟩
   rw [if_pos c2] at H
   have c2b0 := decide_eq_true c2
   clear c2
   replace H := IT H
   obtain ⟨c3, H⟩ := H
   have c3b0 := decide_eq_true c3
   clear c3
   by_cases c4 : x8_1 < (l0.length : Int)
   ·rw [if_pos c4] at H
    have c4b0 := decide_eq_true c4
    clear c4
    have H' := AA H
    clear H
    have p243 : 0 ≤ (x8_1 : Int) := DA
    have q243 : x8_1 < (l0.length : Int) := DA
    obtain ⟨ad243, e243, hx243_0⟩ := Kd.at_int HR0.out x8_1 p243 q243
    cases e243
    replace p243 := eq_true p243
    replace q243 := eq_true q243
    go_wp2
    go_roundg k1
    case measure => have := HK1.out; omega
    case rel => exact ⟨(IntKind.u64.wrap (x3_1 + (IntKind.u64.wrap (rd l0 x8_1)))), (wrap64 (x8_1 + 1)), QS, QS, H', ⟨by have := HK1.out; omega⟩, DW⟩
   rw [if_neg c4] at H
   exact absurd H (by simp)

theorem Join_l (l : List Int) (hl : l.length ≤ 140737488355328) (hb : ∀ x ∈ l, 0 ≤ x ∧ x ≤ 65535) (d : Nat) : ∀ (k : Nat) (i : Int), (l.length : Int) - i = d → 0 ≤ i → d < k →
  cksum_Join_p.l0 k (l.take i.toNat).sum l (l.length : Int) i = some (Sp.join l) := by
 have hsum : ∀ m : List Int, (∀ x ∈ m, 0 ≤ x ∧ x ≤ 65535) → 0 ≤ m.sum ∧ m.sum ≤ 65535 * (m.length : Int) := by
  intro m
  induction m with
  | nil => intro _; simp
  | cons x m ihm => intro h; have a := h x (by simp); have b := ihm (fun y hy => h y (by simp [hy])); rw [List.sum_cons, List.length_cons]; omega
 induction d with
 | zero =>
  intro k i hd h0 hk
  obtain ⟨k, rfl⟩ : ∃ m, k = m + 1 := ⟨k - 1, by omega⟩
  obtain rfl : i = (l.length : Int) := by omega
  have := hsum l hb
  simp only [cksum_Join_p.l0]
  rw [if_neg (by omega), Int.toNat_natCast, List.take_length, cksum_Fold_eq (by omega) (by omega)]
  rfl
 | succ d ih =>
  intro k i hd h0 hk
  obtain ⟨k, rfl⟩ : ∃ m, k = m + 1 := ⟨k - 1, by omega⟩
  have hi : i.toNat < l.length := by omega
  have hn := ih k (i + 1) (by omega) (by omega) (by omega)
  have hx := hb _ (List.getElem_mem hi)
  have ht := hsum (l.take i.toNat) (fun x hx => hb x (List.mem_of_mem_take hx))
  rw [List.length_take] at ht
  rw [show (i + 1).toNat = i.toNat + 1 by omega, List.take_succ_eq_append_getElem hi, List.sum_append, List.sum_singleton] at hn
  simp only [cksum_Join_p.l0]
  rw [if_pos (by omega), if_pos h0, if_pos (by omega), show rd l i = l[i.toNat] by simp [rd, hi], wrap_u64 (n := l[i.toNat]) (by omega) (by omega), wrap_u64 (by omega) (by omega), show wrap64 (i + 1) = i + 1 by unfold wrap64; omega]
  exact hn
def cksum_Join.f (l0 : List Int) : Option Int := if l0.length ≤ 140737488355328 ∧ ∀ x ∈ l0, 0 ≤ x ∧ x ≤ 65535 then some (Sp.join l0) else none
theorem cksum_Join_eq {l0 : List Int} (h0 : l0.length ≤ 140737488355328) (h1 : ∀ x ∈ l0, 0 ≤ x ∧ x ≤ 65535) : cksum_Join.f l0 = some (Sp.join l0) := by unfold cksum_Join.f; rw [if_pos ⟨h0, h1⟩]
theorem cksum_Join.calls (A0 : Option Addr) (c0 : Nat) (l0 : List Int) (r : Int) (w : World) (hr0 : Kd.C (Kd.int .u16) w A0 l0.length l0) (hc0 : l0.length ≤ c0) (h : cksum_Join.f l0 = some r) :
  Calls Tryz.prog 42 #[.slice A0 l0.length c0] w fun e w' => e = .returned (.int .u16 r) ∧ Drawn0 w w' := by
 unfold cksum_Join.f at h
 split at h
 case isFalse => cases h
 case isTrue hs =>
  have hk := Join_l l0 hs.1 hs.2 l0.length (l0.length + 1) 0 (by omega) (by omega) (by omega)
  rw [Option.some.inj h] at hk
  exact cksum_Join_p.calls (l0.length + 1) A0 c0 l0 r w hr0 hc0 (by simpa [cksum_Join_p.f] using hk)
/-! ### cksum_Update_p: function 21 -/
def cksum_Update_p.f (a0 : Int) (a1 : Int) (a2 : Int) : Option (Int) := (cksum_Join.f (([Go.bits .xor .u16 65535 a0, Go.bits .xor .u16 65535 a1, a2] : List Int))).bind fun t316 => (some (Go.bits .xor .u16 65535 t316))
set_option maxHeartbeats 8000000 in
set_option maxRecDepth 100000 in
theorem cksum_Update_p.calls (a0 : Int) (a1 : Int) (a2 : Int) (r : Int) (w : World) (h : cksum_Update_p.f a0 a1 a2 = some r) :
  Calls Tryz.prog 21 #[.int .u16 a0, .int .u16 a1, .int .u16 a2] w fun e w' => e = .returned (.int .u16 r) ∧ Below w.heap.size w w' := by
 have HB := AA (Below.refl w.heap.size w)
 have H := h
 unfold cksum_Update_p.f at H
 clear h
 obtain ⟨y313, hy313⟩ : ∃ y_ : List Int, y_ = (([Go.bits .xor .u16 65535 a0, Go.bits .xor .u16 65535 a1, a2] : List Int)) := ⟨_, rfl⟩
 replace H : ((cksum_Join.f y313).bind fun t316 => (some (Go.bits .xor .u16 65535 t316))) = some r := by first | (rw [hy313]; with_reducible exact H) | (have H2_ := (Option.bind_some _ _).symm.trans H; rw [hy313]; with_reducible exact H2_) | (have H2_ := (Option.bind_some _ _).symm.trans H; with_reducible exact H2_) | with_reducible exact H | (rw [hy313]; exact H) | exact H
 have Ny313 := AA hy313
 clear hy313
 replace H := OB H
 obtain ⟨t316, A4, H⟩ := H
 (try set_option simprocs false in dsimp only at H)
 obtain rfl := Option.some.inj H
 go_enter Tryz.func21, Tryz.ntmps21
 go_wp2_with (first | ((with_reducible refine gate_dst (N := 12) rfl ?_); refine Kd.R_lit (Kd.int .u16) _ 23 ?hg (N := 12) ?hd (xs := ([Go.bits .xor .u16 65535 a0, Go.bits .xor .u16 65535 a1, a2] : List Int)) (inner := [.int .u16 (Go.bits .xor .u16 65535 a0), .int .u16 (Go.bits .xor .u16 65535 a1), .int .u16 a2]) (ok := fun _ => True) (okp := fun _ => True) ?hr ?hp (fun _ hk => hk) trivial (Below.refl _ _) (Nat.le_refl _) (by simp) ?_; (case hd => rfl); (case hg => rfl); (case hr => first | (go_simp; done) | (go_simp; rfl)); (case hp => exact (Reps.one (show Kd.M (Kd.int .u16) _ _ _ (Go.bits .xor .u16 65535 a0) [.int .u16 (Go.bits .xor .u16 65535 a0)] from rfl) (Reps.one (show Kd.M (Kd.int .u16) _ _ _ (Go.bits .xor .u16 65535 a1) [.int .u16 (Go.bits .xor .u16 65535 a1)] from rfl) (Reps.one (show Kd.M (Kd.int .u16) _ _ _ a2 [.int .u16 a2] from rfl) (Reps.none _ _))))); intro v314 w5 ho6 hb hg_ hnew_; clear hg_ hnew_; (first | rw [← Ny313.out] at ho6 | (simp only [Int.reduceToNat] at ho6; rw [← Ny313.out] at ho6)); have HO315 := AA (Kd.R_lower ho6 (below_size (BW HB))); replace HB := BS HB hb; clear hb ho6; obtain ⟨Ao7, co7, eo7⟩ := Kd.R_slice HO315.out; subst eo7) | ((with_reducible refine gkx 42 rfl ?_); refine goesL_ (some 13) rfl rfl Tryz.func42 (by kernel_rfl) rfl #[.slice Ao7 y313.length co7] rfl AG ?_; (with_reducible refine (cksum_Join.calls _ _ y313 t316 _ ?side1 ?side2 A4.out).mono ?_); (case side1 => repeat (first | exact (Kd.R_reads' HO315.out).2.2 | (with_reducible refine Kd.C_alloc ?_ _) | (with_reducible refine Kd.C_drewN ?_ _) | (with_reducible refine Kd.C_drew ?_))); (case side2 => exact (Kd.R_reads' HO315.out).2.1); rintro e w' ⟨rfl, ⟨nd, rfl⟩⟩; refine ⟨_, rfl, ?_⟩))
 go_ret
 exact ⟨RT, BW HB⟩

def w16b (n : Int) : Bool := decide (0 ≤ n ∧ n ≤ 65535)
theorem update_bounds {c o n : Int} (h : c ≤ 65535) (h2 : o ≤ 65535) (h3 : 0 ≤ n) : 0 ≤ Sp.update c o n ∧ Sp.update c o n ≤ 65535 := by
 have := Sp.fold16_bounds (n := (65535 - c) + (65535 - o) + n) (by omega)
 unfold Sp.update; omega
theorem Update_ev {a0 a1 a2 : Int} (h0 : 0 ≤ a0 ∧ a0 ≤ 65535) (h1 : 0 ≤ a1 ∧ a1 ≤ 65535) (h2 : 0 ≤ a2 ∧ a2 ≤ 65535) : cksum_Update_p.f a0 a1 a2 = some (Sp.update a0 a1 a2) := by
 unfold cksum_Update_p.f
 rw [not16 h0.1 h0.2, not16 h1.1 h1.2, cksum_Join_eq (by simp) (by intro x hx; simp at hx; omega), Option.bind_some]
 have e : Sp.join [65535 - a0, 65535 - a1, a2] = Sp.fold16 ((65535 - a0) + (65535 - a1) + a2) := by
  unfold Sp.join; congr 1; simp only [List.sum_cons, List.sum_nil]; omega
 have hb := Sp.fold16_bounds (n := (65535 - a0) + (65535 - a1) + a2) (by omega)
 rw [e, not16 hb.1 hb.2]
 rfl
def cksum_Update.f (a0 a1 a2 : Int) : Option Int := if w16b a0 && w16b a1 && w16b a2 then some (Sp.update a0 a1 a2) else none
theorem cksum_Update_eq {a0 a1 a2 : Int} (h0 : 0 ≤ a0 ∧ a0 ≤ 65535) (h1 : 0 ≤ a1 ∧ a1 ≤ 65535) (h2 : 0 ≤ a2 ∧ a2 ≤ 65535) : cksum_Update.f a0 a1 a2 = some (Sp.update a0 a1 a2) := by
 unfold cksum_Update.f; rw [if_pos (by simp [w16b, h0, h1, h2])]
theorem cksum_Update.calls (a0 : Int) (a1 : Int) (a2 : Int) (r : Int) (w : World) (h : cksum_Update.f a0 a1 a2 = some r) :
  Calls Tryz.prog 21 #[.int .u16 a0, .int .u16 a1, .int .u16 a2] w fun e w' => e = .returned (.int .u16 r) ∧ Below w.heap.size w w' := by
 unfold cksum_Update.f at h
 split at h
 case isFalse => cases h
 case isTrue hs =>
  simp only [w16b, Bool.and_eq_true, decide_eq_true_eq] at hs
  exact cksum_Update_p.calls a0 a1 a2 r w ((Update_ev hs.1.1 hs.1.2 hs.2).trans h)
/-! ### cksum_Update32_p: function 16 -/
def cksum_Update32_p.f (a0 : Int) (a1 : Int) (a2 : Int) : Option (Int) := (cksum_Update.f a0 (IntKind.u16.wrap (a1 / 65536)) (IntKind.u16.wrap (a2 / 65536))).bind fun t317 => ((cksum_Update.f t317 (IntKind.u16.wrap (Go.bits .and .u32 a1 65535)) (IntKind.u16.wrap (Go.bits .and .u32 a2 65535))).bind fun t318 => (some t318))
set_option maxHeartbeats 8000000 in
set_option maxRecDepth 100000 in
theorem cksum_Update32_p.calls (a0 : Int) (a1 : Int) (a2 : Int) (r : Int) (w : World) (h : cksum_Update32_p.f a0 a1 a2 = some r) :
  Calls Tryz.prog 16 #[.int .u16 a0, .int .u32 a1, .int .u32 a2] w fun e w' => e = .returned (.int .u16 r) ∧ Below w.heap.size w w' := by
 have HB := AA (Below.refl w.heap.size w)
 have H := h
 unfold cksum_Update32_p.f at H
 clear h
 replace H := OB H
 obtain ⟨t317, A4, H⟩ := H
 (try set_option simprocs false in dsimp only at H)
 replace H := OB H
 obtain ⟨t318, A5, H⟩ := H
 (try set_option simprocs false in dsimp only at H)
 obtain rfl := Option.some.inj H
 go_enter Tryz.func16, Tryz.ntmps16
 go_wp2_with (first | ((with_reducible refine gkx 21 rfl ?_); refine gL 14 Tryz.func21 rfl (cksum_Update.calls a0 (IntKind.u16.wrap (a1 / 65536)) (IntKind.u16.wrap (a2 / 65536)) t317 _ A4.out) ?_; rintro w6 hb; (try clear A4); replace HB := BS HB hb; (try clear hb)) | ((with_reducible refine gkx 21 rfl ?_); refine gL 22 Tryz.func21 rfl (cksum_Update.calls t317 (IntKind.u16.wrap (Go.bits .and .u32 a1 65535)) (IntKind.u16.wrap (Go.bits .and .u32 a2 65535)) t318 _ A5.out) ?_; rintro w7 hb; (try clear A5); replace HB := BS HB hb; (try clear hb)))
 go_ret
 exact ⟨RT, BW HB⟩

theorem and32 {n : Int} (h0 : 0 ≤ n) (h1 : n ≤ 4294967295) : Go.bits .and .u32 n 65535 = n % 65536 :=
 bits_mask .u32 32 (by decide) (fun n a b => IntWalk.u32_in n ⟨a, by omega⟩) 16 (by decide) n h0 (by omega)
def w32b (n : Int) : Bool := decide (0 ≤ n ∧ n ≤ 4294967295)
theorem Update32_ev {a0 a1 a2 : Int} (h0 : 0 ≤ a0 ∧ a0 ≤ 65535) (h1 : 0 ≤ a1 ∧ a1 ≤ 4294967295) (h2 : 0 ≤ a2 ∧ a2 ≤ 4294967295) : cksum_Update32_p.f a0 a1 a2 = some (Sp.update32 a0 a1 a2) := by
 unfold cksum_Update32_p.f
 rw [wrap_u16 (n := a1 / 65536) (by omega) (by omega), wrap_u16 (n := a2 / 65536) (by omega) (by omega), and32 h1.1 h1.2, and32 h2.1 h2.2, wrap_u16 (n := a1 % 65536) (by omega) (by omega), wrap_u16 (n := a2 % 65536) (by omega) (by omega),
  cksum_Update_eq h0 (by omega) (by omega), Option.bind_some, cksum_Update_eq (update_bounds h0.2 (by omega) (by omega)) (by omega) (by omega)]
 rfl
def cksum_Update32.f (a0 a1 a2 : Int) : Option Int := if w16b a0 && w32b a1 && w32b a2 then some (Sp.update32 a0 a1 a2) else none
theorem cksum_Update32_eq {a0 a1 a2 : Int} (h0 : 0 ≤ a0 ∧ a0 ≤ 65535) (h1 : 0 ≤ a1 ∧ a1 ≤ 4294967295) (h2 : 0 ≤ a2 ∧ a2 ≤ 4294967295) : cksum_Update32.f a0 a1 a2 = some (Sp.update32 a0 a1 a2) := by
 unfold cksum_Update32.f; rw [if_pos (by simp [w16b, w32b, h0, h1, h2])]
theorem cksum_Update32.calls (a0 : Int) (a1 : Int) (a2 : Int) (r : Int) (w : World) (h : cksum_Update32.f a0 a1 a2 = some r) :
  Calls Tryz.prog 16 #[.int .u16 a0, .int .u32 a1, .int .u32 a2] w fun e w' => e = .returned (.int .u16 r) ∧ Below w.heap.size w w' := by
 unfold cksum_Update32.f at h
 split at h
 case isFalse => cases h
 case isTrue hs =>
  simp only [w16b, w32b, Bool.and_eq_true, decide_eq_true_eq] at hs
  exact cksum_Update32_p.calls a0 a1 a2 r w ((Update32_ev hs.1.1 hs.1.2 hs.2).trans h)

end Go.Proofs.YtfnjohklmpiboaaGreat.Pr
