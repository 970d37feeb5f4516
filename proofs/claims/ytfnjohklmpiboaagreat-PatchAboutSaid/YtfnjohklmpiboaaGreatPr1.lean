-- Written by a program of the session (wip/tools) out of the translation, over the kit's print; with pieces of the session's own.
import Derived.Test.YtfnjohklmpiboaaGreatPr0
import Derived.Test.YtfnjohklmpiboaaGreatPr2
namespace Go.Proofs.YtfnjohklmpiboaaGreat.Pr
open Go.RowKit Go.Proofs.YtfnjohklmpiboaaGreatW.PrintWords Go.Proofs.YtfnjohklmpiboaaGreatW.PrintLast Go.Proofs.YtfnjohklmpiboaaGreatW.PrintMore
attribute [local go_sem] max2_int min2_int max_two min_two max_three min_three max_four min_four   -- for this text's walks alone
set_option linter.unusedVariables false
set_option linter.unusedSimpArgs false
open Go.Proofs.YtfnjohklmpiboaaGreat.Sp
/-! ### weighbridgeref03_Fold_p: function 47 -/
def weighbridgeref03_Fold_p.l0 : Nat → Int → Option (Int)
 | 0, _ => none
 | k + 1, x0 => if x0 > 65535 then (weighbridgeref03_Fold_p.l0 k (IntKind.u64.wrap ((Int.tmod x0 65536) + (IntKind.u64.wrap (Int.tdiv x0 65536))))) else (some (IntKind.u16.wrap (x0)))
def weighbridgeref03_Fold_p.f (k : Nat) (a0 : Int) : Option (Int) := weighbridgeref03_Fold_p.l0 k a0
theorem weighbridgeref03_Fold_p.mono_l : ∀ k, (∀ y0, LeO (weighbridgeref03_Fold_p.l0 k y0) (weighbridgeref03_Fold_p.l0 (k + 1) y0))
 | 0 => fun _ r h => by simp [weighbridgeref03_Fold_p.l0] at h
 | k + 1 => by
  have ih0 := weighbridgeref03_Fold_p.mono_l k
  ·intro y0
   unfold weighbridgeref03_Fold_p.l0
   repeat' first
   | (with_reducible exact ih0 _)
   | (with_reducible exact LeO.refl _)
   | (with_reducible exact LeO.none _)
   | (with_reducible refine LeO.ite ?_ ?_)
   | (with_reducible refine LeO.bind ?_ (fun _ => ?_))
   | exact ih0 _
   | exact LeO.none _
   | refine LeO.ite ?_ ?_
   | refine LeO.bind ?_ (fun _ => ?_)
theorem weighbridgeref03_Fold_p.mono : ∀ a0 k, LeO (weighbridgeref03_Fold_p.f k a0) (weighbridgeref03_Fold_p.f (k + 1) a0) := by
 intro a0 k
 have ih0 := weighbridgeref03_Fold_p.mono_l k
 unfold weighbridgeref03_Fold_p.f
 repeat' first
   | (with_reducible exact ih0 _)
   | (with_reducible exact LeO.refl _)
   | (with_reducible exact LeO.none _)
   | (with_reducible refine LeO.ite ?_ ?_)
   | (with_reducible refine LeO.bind ?_ (fun _ => ?_))
   | exact ih0 _
   | exact LeO.none _
   | refine LeO.ite ?_ ?_
   | refine LeO.bind ?_ (fun _ => ?_)
set_option maxHeartbeats 8000000 in
set_option maxRecDepth 100000 in
theorem weighbridgeref03_Fold_p.calls (k : Nat) (a0 : Int) (r : Int) (w : World) (h : weighbridgeref03_Fold_p.f k a0 = some r) :
  Calls Tryz.prog 47 #[.int .u64 a0] w fun e w' => e = .returned (.int .u16 r) ∧ Drawn0 w w' := by
 have H : (weighbridgeref03_Fold_p.l0 k a0) = some r := h
 clear h
 have H' := AA H
 clear H
 go_enter Tryz.func47, Tryz.ntmps47
 go_wp2
 go_loopg [0] k (fun kq v0 w' => ∃ (x0_1 : Int), v0 = .int .u64 x0_1 ∧ Aside0 (weighbridgeref03_Fold_p.l0 kq x0_1 = some r) ∧ Aside0 (kq ≤ k) ∧ Drawn0 w w')
 case atStart => exact ⟨(a0), (RS), H', ⟨Nat.le_refl _⟩, DW⟩
 case round =>
  clear H'
  obtain ⟨x0_1, rfl, HA, HK1, ⟨m1, rfl⟩⟩ := hrel
  cases gk with
  | zero => exact absurd HA.out (by simp [weighbridgeref03_Fold_p.l0])
  | succ k1 =>
   have H := HA.out
   clear HA
   simp only [weighbridgeref03_Fold_p.l0] at H
   by_cases c2 : x0_1 > 65535
   ·rw [if_pos c2] at H
    have c2b0 : decide (65535 < x0_1) = true := decide_eq_true c2
    clear c2
    have H' := AA H
    clear H
    go_wp2
    go_roundg k1
    case measure => have := HK1.out; omega
    case rel => exact ⟨(IntKind.u64.wrap ((Int.tmod x0_1 65536) + (IntKind.u64.wrap (Int.tdiv x0_1 65536)))), QS, H', ⟨by have := HK1.out; omega⟩, DW⟩
   rw [if_neg c2] at H
   have c2b0 : decide (65535 < x0_1) = false := decide_eq_false c2
   clear c2
   obtain rfl := Option.some.inj H
   go_wp2
   go_ret
   exact ⟨RS, DW⟩

theorem r3_Fold_ev (d : Nat) : ∀ n : Int, 0 ≤ n → n ≤ 18446744073709551615 → n.toNat ≤ d → ∃ k, weighbridgeref03_Fold_p.f k n = some (Sp.fold16 n) := by
 induction d with
 | zero =>
  intro n h0 h1 hd
  refine ⟨1, ?_⟩
  simp only [weighbridgeref03_Fold_p.f, weighbridgeref03_Fold_p.l0]
  rw [if_neg (by omega), r3_u16 h0 (by omega), Sp.fold16_small h0 (by omega)]
 | succ d ih =>
  intro n h0 h1 hd
  by_cases h : n > 65535
  ·obtain ⟨k, hk⟩ := ih (n % 65536 + n / 65536) (by omega) (by omega) (by omega)
   refine ⟨k + 1, ?_⟩
   simp only [weighbridgeref03_Fold_p.f, weighbridgeref03_Fold_p.l0] at hk ⊢
   rw [if_pos h, Int.tmod_eq_emod_of_nonneg h0, Int.tdiv_eq_ediv_of_nonneg h0, r3_u64 (n := n / 65536) (by omega) (by omega), r3_u64 (by omega) (by omega), hk, Sp.fold16_step (by omega)]
  refine ⟨1, ?_⟩
  simp only [weighbridgeref03_Fold_p.f, weighbridgeref03_Fold_p.l0]
  rw [if_neg h, r3_u16 h0 (by omega), Sp.fold16_small h0 (by omega)]
def weighbridgeref03_Fold.f (a0 : Int) : Option Int := if 0 ≤ a0 ∧ a0 ≤ 18446744073709551615 then some (Sp.fold16 a0) else none
theorem weighbridgeref03_Fold_eq {a0 : Int} (h0 : 0 ≤ a0) (h1 : a0 ≤ 18446744073709551615) : weighbridgeref03_Fold.f a0 = some (Sp.fold16 a0) := by unfold weighbridgeref03_Fold.f; rw [if_pos ⟨h0, h1⟩]
theorem weighbridgeref03_Fold.calls (a0 : Int) (r : Int) (w : World) (h : weighbridgeref03_Fold.f a0 = some r) :
  Calls Tryz.prog 47 #[.int .u64 a0] w fun e w' => e = .returned (.int .u16 r) ∧ Drawn0 w w' := by
 unfold weighbridgeref03_Fold.f at h
 split at h
 case isFalse => cases h
 case isTrue hs =>
  obtain ⟨k, hk⟩ := r3_Fold_ev a0.toNat a0 hs.1 hs.2 (Nat.le_refl _)
  rw [Option.some.inj h] at hk
  exact weighbridgeref03_Fold_p.calls k a0 r w hk
/-! ### weighbridgeref03_Sum_p: function 48 -/
def weighbridgeref03_Sum_p.l0 : Nat → Int → List Int → Int → Option (Int)
 | 0, _, _, _ => none
 | k + 1, x3, x4, x5 => if x5 < (x4.length : Int) then (if 0 ≤ x5 then (weighbridgeref03_Sum_p.l0 k (IntKind.u64.wrap (x3 + (IntKind.u64.wrap (rd x4 x5)))) x4 (wrap64 (x5 + 1))) else (none)) else ((weighbridgeref03_Fold.f x3).bind fun t111 => (some t111))
def weighbridgeref03_Sum_p.f (k : Nat) (a0 : ByteArray) : Option (Int) := (weighbridgeref01_Words.f k a0).bind fun t107 => (weighbridgeref03_Sum_p.l0 k 0 t107 0)
theorem weighbridgeref03_Sum_p.mono_l : ∀ k, (∀ y0 y1 y2, LeO (weighbridgeref03_Sum_p.l0 k y0 y1 y2) (weighbridgeref03_Sum_p.l0 (k + 1) y0 y1 y2))
 | 0 => fun _ _ _ r h => by simp [weighbridgeref03_Sum_p.l0] at h
 | k + 1 => by
  have ih0 := weighbridgeref03_Sum_p.mono_l k
  ·intro y0 y1 y2
   unfold weighbridgeref03_Sum_p.l0
   repeat' first
   | (with_reducible exact ih0 _ _ _)
   | (with_reducible exact weighbridgeref01_Words.mono _ _)
   | (with_reducible exact LeO.refl _)
   | (with_reducible exact LeO.none _)
   | (with_reducible refine LeO.ite ?_ ?_)
   | (with_reducible refine LeO.bind ?_ (fun _ => ?_))
   | exact ih0 _ _ _
   | exact weighbridgeref01_Words.mono _ _
   | exact LeO.none _
   | refine LeO.ite ?_ ?_
   | refine LeO.bind ?_ (fun _ => ?_)
theorem weighbridgeref03_Sum_p.mono : ∀ a0 k, LeO (weighbridgeref03_Sum_p.f k a0) (weighbridgeref03_Sum_p.f (k + 1) a0) := by
 intro a0 k
 have ih0 := weighbridgeref03_Sum_p.mono_l k
 unfold weighbridgeref03_Sum_p.f
 repeat' first
   | (with_reducible exact ih0 _ _ _)
   | (with_reducible exact weighbridgeref01_Words.mono _ _)
   | (with_reducible exact LeO.refl _)
   | (with_reducible exact LeO.none _)
   | (with_reducible refine LeO.ite ?_ ?_)
   | (with_reducible refine LeO.bind ?_ (fun _ => ?_))
   | exact ih0 _ _ _
   | exact weighbridgeref01_Words.mono _ _
   | exact LeO.none _
   | refine LeO.ite ?_ ?_
   | refine LeO.bind ?_ (fun _ => ?_)
set_option maxHeartbeats 8000000 in
set_option maxRecDepth 100000 in
theorem weighbridgeref03_Sum_p.calls (k : Nat) (a0 : ByteArray) (r : Int) (w : World) (h : weighbridgeref03_Sum_p.f k a0 = some r) :
  Calls Tryz.prog 48 #[.string a0] w fun e w' => e = .returned (.int .u16 r) ∧ Below w.heap.size w w' := by
 have HB := AA (Below.refl w.heap.size w)
 have H : ((weighbridgeref01_Words.f k a0).bind fun t107 => (weighbridgeref03_Sum_p.l0 k 0 t107 0)) = some r := h
 clear h
 replace H := OB H
 obtain ⟨t107, A2, H⟩ := H
 (try set_option simprocs false in dsimp only at H)
 have H' := AA H
 clear H
 go_enter Tryz.func48, Tryz.ntmps48
 go_wp2_with (first | ((with_reducible refine gkx 71 rfl ?_); refine goesL_ (some 7) rfl rfl Tryz.func71 (by kernel_rfl) rfl #[.string a0] rfl AG ?_; (with_reducible refine (weighbridgeref01_Words.calls k a0 t107 _ A2.out).mono ?_); rintro e w3 ⟨v108, rfl, ho0, hb⟩; (try clear A2); refine ⟨_, rfl, ?_⟩; have HO109 := AA (Kd.R_lower ho0 (below_size (BW HB))); replace HB := BS HB hb; (try clear hb); (try clear ho0)))
 go_loopg [3, 5] k (fun kq v3 v5 w' => ∃ (x3_1 : Int) (x5_1 : Int), v3 = .int .u64 x3_1 ∧ v5 = .int .i64 x5_1 ∧ Aside0 (weighbridgeref03_Sum_p.l0 kq x3_1 t107 x5_1 = some r) ∧ Aside0 (kq ≤ k) ∧ Aside0 (Kd.R (Kd.int .i64) 3 w' w.heap.size (fun _ => True) v108 t107) ∧ Aside0 (Below w.heap.size w w'))
 case atStart => exact ⟨(0), (0), (RS), (RS), H', ⟨Nat.le_refl _⟩, ⟨by (with_reducible repeat (first | apply Kd.R_alloc | apply Kd.R_drewN | apply Kd.R_drew)); exact HO109.out⟩, ⟨BW HB⟩⟩
 case round =>
  clear H'
  try clear p2
  obtain ⟨x3_1, x5_1, rfl, rfl, HA, HK1, HO_4, HB⟩ := hrel
  cases gk with
  | zero => exact absurd HA.out (by simp [weighbridgeref03_Sum_p.l0])
  | succ k1 =>
   have H := HA.out
   clear HA
   simp only [weighbridgeref03_Sum_p.l0] at H
   by_cases c4 : x5_1 < (t107.length : Int)
   ·rw [if_pos c4] at H
    have c4b0 := decide_eq_true c4
    clear c4
    by_cases c5 : 0 ≤ x5_1
    ·rw [if_pos c5] at H
     have c5b0 := decide_eq_true c5
     clear c5
     have H' := AA H
     clear H
     obtain ⟨Ao6, co6, eo6⟩ := Kd.R_slice HO_4.out
     subst eo6
     have p110 : 0 ≤ (x5_1 : Int) := DA
     have q110 : x5_1 < (t107.length : Int) := DA
     obtain ⟨ad110, e110, hx110_0⟩ := Kd.at_int (Kd.R_reads' HO_4.out).2.2 x5_1 p110 q110
     cases e110
     replace p110 := eq_true p110
     replace q110 := eq_true q110
     go_wp2
     go_roundg k1
     case measure => have := HK1.out; omega
     case rel => exact ⟨(IntKind.u64.wrap (x3_1 + (IntKind.u64.wrap (rd t107 x5_1)))), (wrap64 (x5_1 + 1)), QS, QS, H', ⟨by have := HK1.out; omega⟩, ⟨by (with_reducible repeat (first | apply Kd.R_alloc | apply Kd.R_drewN | apply Kd.R_drew)); exact HO_4.out⟩, ⟨BW HB⟩⟩
    rw [if_neg c5] at H
    exact absurd H (by simp)
   rw [if_neg c4] at H
   have c4b0 := decide_eq_false c4
   clear c4
   replace H := OB H
   obtain ⟨t111, A7, H⟩ := H
   (try set_option simprocs false in dsimp only at H)
   obtain rfl := Option.some.inj H
   obtain ⟨Ao8, co8, eo8⟩ := Kd.R_slice HO_4.out
   subst eo8
   go_wp2_with (first | ((with_reducible refine gkx 47 rfl ?_); refine gL 22 Tryz.func47 rfl (weighbridgeref03_Fold.calls x3_1 t111 _ A7.out) ?_; rintro w' ⟨nd, rfl⟩))
   go_ret
   exact ⟨RT, BW HB⟩

theorem wlI_sum (l : List UInt16) : (l.map fun x => (x.toNat : Int)).sum = Sp.wsum l := by
 induction l with
 | nil => rfl
 | cons x l ih => rw [List.map_cons, List.sum_cons, ih, Sp.wsum_cons]
theorem wlI_mem {l : List UInt8} {x : Int} (h : x ∈ wlI l) : 0 ≤ x ∧ x ≤ 65535 := by
 unfold wlI at h
 obtain ⟨y, _, rfl⟩ := List.mem_map.1 h
 have := y.toNat_lt
 omega
theorem r3_Sum_l (l : List Int) (hl : l.length ≤ 140737488355328) (hb : ∀ x ∈ l, 0 ≤ x ∧ x ≤ 65535) (d : Nat) : ∀ (k : Nat) (i : Int), (l.length : Int) - i = d → 0 ≤ i → d < k →
  weighbridgeref03_Sum_p.l0 k (l.take i.toNat).sum l i = some (Sp.join l) := by
 induction d with
 | zero =>
  intro k i hd h0 hk
  obtain ⟨k, rfl⟩ : ∃ m, k = m + 1 := ⟨k - 1, by omega⟩
  obtain rfl : i = (l.length : Int) := by omega
  have := r3_sum_bounds l hb
  simp only [weighbridgeref03_Sum_p.l0]
  rw [if_neg (by omega), Int.toNat_natCast, List.take_length, weighbridgeref03_Fold_eq (by omega) (by omega)]
  rfl
 | succ d ih =>
  intro k i hd h0 hk
  obtain ⟨k, rfl⟩ : ∃ m, k = m + 1 := ⟨k - 1, by omega⟩
  have hi : i.toNat < l.length := by omega
  have hn := ih k (i + 1) (by omega) (by omega) (by omega)
  have hx := hb _ (List.getElem_mem hi)
  have ht := r3_sum_bounds (l.take i.toNat) (fun x hx => hb x (List.mem_of_mem_take hx))
  rw [List.length_take] at ht
  rw [show (i + 1).toNat = i.toNat + 1 by omega, List.take_succ_eq_append_getElem hi, List.sum_append, List.sum_singleton] at hn
  simp only [weighbridgeref03_Sum_p.l0]
  rw [if_pos (by omega), if_pos h0, show rd l i = l[i.toNat] by simp [rd, hi], r3_u64 (n := l[i.toNat]) (by omega) (by omega), r3_u64 (by omega) (by omega), show wrap64 (i + 1) = i + 1 by unfold wrap64; omega]
  exact hn
theorem r3_Sum_ev (s : ByteArray) (hs : s.size ≤ 17592186044416) : ∃ k, weighbridgeref03_Sum_p.f k s = some (Sp.sum (bl s)) := by
 have hlen : (wlI (bl s)).length = (s.size + 1) / 2 := by unfold wlI; rw [List.length_map, Sp.wl_length, bl_length]
 refine ⟨s.size + 2, ?_⟩
 unfold weighbridgeref03_Sum_p.f
 rw [ref01_Words_ev s hs, Option.bind_some]
 have := r3_Sum_l (wlI (bl s)) (by omega) (fun x hx => wlI_mem hx) (wlI (bl s)).length (s.size + 2) 0 (by omega) (by omega) (by omega)
 have e : Sp.join (wlI (bl s)) = Sp.sum (bl s) := by unfold Sp.join wlI Sp.sum; rw [wlI_sum]
 rw [e] at this
 exact this
def lim01 : Nat := 17592186044416
def weighbridgeref03_Sum.f (a0 : ByteArray) : Option Int := if a0.size ≤ lim01 then some (Sp.sum (bl a0)) else none
theorem weighbridgeref03_Sum_eq {a0 : ByteArray} (h : a0.size ≤ 17592186044416) : weighbridgeref03_Sum.f a0 = some (Sp.sum (bl a0)) := by unfold weighbridgeref03_Sum.f; exact if_pos h
theorem weighbridgeref03_Sum.calls (a0 : ByteArray) (r : Int) (w : World) (h : weighbridgeref03_Sum.f a0 = some r) :
  Calls Tryz.prog 48 #[.string a0] w fun e w' => e = .returned (.int .u16 r) ∧ Below w.heap.size w w' := by
 unfold weighbridgeref03_Sum.f at h
 split at h
 case isFalse => cases h
 case isTrue hs =>
  obtain ⟨k, hk⟩ := r3_Sum_ev a0 hs
  exact weighbridgeref03_Sum_p.calls k a0 r w (hk.trans h)
/-! ### weighbridgeref03_Check_p: function 31 -/
def weighbridgeref03_Check_p.f (a0 : ByteArray) : Option (Int) := (weighbridgeref03_Sum.f a0).bind fun t112 => (some (IntKind.u16.wrap (65535 - t112)))
set_option maxHeartbeats 8000000 in
set_option maxRecDepth 100000 in
theorem weighbridgeref03_Check_p.calls (a0 : ByteArray) (r : Int) (w : World) (h : weighbridgeref03_Check_p.f a0 = some r) :
  Calls Tryz.prog 31 #[.string a0] w fun e w' => e = .returned (.int .u16 r) ∧ Below w.heap.size w w' := by
 have HB := AA (Below.refl w.heap.size w)
 have H : ((weighbridgeref03_Sum.f a0).bind fun t112 => (some (IntKind.u16.wrap (65535 - t112)))) = some r := h
 clear h
 replace H := OB H
 obtain ⟨t112, A2, H⟩ := H
 (try set_option simprocs false in dsimp only at H)
 obtain rfl := Option.some.inj H
 go_enter Tryz.func31, Tryz.ntmps31
 go_wp2_with (first | ((with_reducible refine gkx 48 rfl ?_); refine gL 4 Tryz.func48 rfl (weighbridgeref03_Sum.calls a0 t112 _ A2.out) ?_; rintro w3 hb; (try clear A2); replace HB := BS HB hb; (try clear hb)))
 go_ret
 exact ⟨RT, BW HB⟩

def weighbridgeref03_Check.f (a0 : ByteArray) : Option Int := if a0.size ≤ lim01 then some (Sp.check (bl a0)) else none
theorem weighbridgeref03_Check_eq {a0 : ByteArray} (h : a0.size ≤ 17592186044416) : weighbridgeref03_Check.f a0 = some (Sp.check (bl a0)) := by unfold weighbridgeref03_Check.f; exact if_pos h
theorem weighbridgeref03_Check.calls (a0 : ByteArray) (r : Int) (w : World) (h : weighbridgeref03_Check.f a0 = some r) :
  Calls Tryz.prog 31 #[.string a0] w fun e w' => e = .returned (.int .u16 r) ∧ Below w.heap.size w w' := by
 unfold weighbridgeref03_Check.f at h
 split at h
 case isFalse => cases h
 case isTrue hs =>
  refine weighbridgeref03_Check_p.calls a0 r w ?_
  unfold weighbridgeref03_Check_p.f
  have hb : 0 ≤ Sp.sum (bl a0) ∧ Sp.sum (bl a0) ≤ 65535 := Sp.fold16_bounds (Sp.wsum_bounds _).1
  rw [weighbridgeref03_Sum_eq hs, Option.bind_some, r3_u16 (by omega) (by omega)]
  exact h
/-! ### weighbridgeref03_Update_p: function 30 -/
def weighbridgeref03_Update_p.f (a0 : Int) (a1 : Int) (a2 : Int) : Option (Int) := (weighbridgeref03_Fold.f (IntKind.u64.wrap ((IntKind.u64.wrap ((IntKind.u64.wrap (IntKind.u16.wrap (65535 - a0))) + (IntKind.u64.wrap (IntKind.u16.wrap (65535 - a1))))) + (IntKind.u64.wrap (a2))))).bind fun t457 => (some (IntKind.u16.wrap (65535 - t457)))
set_option maxHeartbeats 8000000 in
set_option maxRecDepth 100000 in
theorem weighbridgeref03_Update_p.calls (a0 : Int) (a1 : Int) (a2 : Int) (r : Int) (w : World) (h : weighbridgeref03_Update_p.f a0 a1 a2 = some r) :
  Calls Tryz.prog 30 #[.int .u16 a0, .int .u16 a1, .int .u16 a2] w fun e w' => e = .returned (.int .u16 r) ∧ Drawn0 w w' := by
 have H := h
 unfold weighbridgeref03_Update_p.f at H
 clear h
 replace H := OB H
 obtain ⟨t457, A4, H⟩ := H
 (try set_option simprocs false in dsimp only at H)
 obtain rfl := Option.some.inj H
 go_enter Tryz.func30, Tryz.ntmps30
 go_wp2_with (first | ((with_reducible refine gkx 47 rfl ?_); refine gL 17 Tryz.func47 rfl (weighbridgeref03_Fold.calls (IntKind.u64.wrap ((IntKind.u64.wrap ((IntKind.u64.wrap (IntKind.u16.wrap (65535 - a0))) + (IntKind.u64.wrap (IntKind.u16.wrap (65535 - a1))))) + (IntKind.u64.wrap (a2)))) t457 _ A4.out) ?_; rintro w' ⟨nd, rfl⟩))
 go_ret
 exact ⟨RS, DW⟩

def r3_16 (n : Int) : Bool := decide (0 ≤ n ∧ n ≤ 65535)
def r3_32 (n : Int) : Bool := decide (0 ≤ n ∧ n ≤ 4294967295)
theorem r3_update_bounds {c o n : Int} (h : c ≤ 65535) (h2 : o ≤ 65535) (h3 : 0 ≤ n) : 0 ≤ Sp.update c o n ∧ Sp.update c o n ≤ 65535 := by
 have := Sp.fold16_bounds (n := (65535 - c) + (65535 - o) + n) (by omega)
 unfold Sp.update; omega
theorem r3_Update_ev {a0 a1 a2 : Int} (h0 : 0 ≤ a0 ∧ a0 ≤ 65535) (h1 : 0 ≤ a1 ∧ a1 ≤ 65535) (h2 : 0 ≤ a2 ∧ a2 ≤ 65535) : weighbridgeref03_Update_p.f a0 a1 a2 = some (Sp.update a0 a1 a2) := by
 unfold weighbridgeref03_Update_p.f
 have hb := Sp.fold16_bounds (n := (65535 - a0) + (65535 - a1) + a2) (by omega)
 rw [r3_u16 (n := 65535 - a0) (by omega) (by omega), r3_u16 (n := 65535 - a1) (by omega) (by omega), r3_u64 (n := 65535 - a0) (by omega) (by omega), r3_u64 (n := 65535 - a1) (by omega) (by omega), r3_u64 (n := a2) (by omega) (by omega),
  r3_u64 (n := 65535 - a0 + (65535 - a1)) (by omega) (by omega), r3_u64 (n := 65535 - a0 + (65535 - a1) + a2) (by omega) (by omega), weighbridgeref03_Fold_eq (by omega) (by omega), Option.bind_some, r3_u16 (by omega) (by omega)]
 rfl
def weighbridgeref03_Update.f (a0 a1 a2 : Int) : Option Int := if r3_16 a0 && r3_16 a1 && r3_16 a2 then some (Sp.update a0 a1 a2) else none
theorem weighbridgeref03_Update_eq {a0 a1 a2 : Int} (h0 : 0 ≤ a0 ∧ a0 ≤ 65535) (h1 : 0 ≤ a1 ∧ a1 ≤ 65535) (h2 : 0 ≤ a2 ∧ a2 ≤ 65535) : weighbridgeref03_Update.f a0 a1 a2 = some (Sp.update a0 a1 a2) := by
 unfold weighbridgeref03_Update.f; rw [if_pos (by simp [r3_16, h0, h1, h2])]
theorem weighbridgeref03_Update.calls (a0 : Int) (a1 : Int) (a2 : Int) (r : Int) (w : World) (h : weighbridgeref03_Update.f a0 a1 a2 = some r) :
  Calls Tryz.prog 30 #[.int .u16 a0, .int .u16 a1, .int .u16 a2] w fun e w' => e = .returned (.int .u16 r) ∧ Drawn0 w w' := by
 unfold weighbridgeref03_Update.f at h
 split at h
 case isFalse => cases h
 case isTrue hs =>
  simp only [r3_16, Bool.and_eq_true, decide_eq_true_eq] at hs
  exact weighbridgeref03_Update_p.calls a0 a1 a2 r w ((r3_Update_ev hs.1.1 hs.1.2 hs.2).trans h)
/-! ### weighbridgeref03_Update32_p: function 46 -/
def weighbridgeref03_Update32_p.f (a0 : Int) (a1 : Int) (a2 : Int) : Option (Int) := (weighbridgeref03_Update.f a0 (IntKind.u16.wrap (a1 / 65536)) (IntKind.u16.wrap (a2 / 65536))).bind fun t458 => ((weighbridgeref03_Update.f t458 (IntKind.u16.wrap (a1)) (IntKind.u16.wrap (a2))).bind fun t459 => (some t459))
set_option maxHeartbeats 8000000 in
set_option maxRecDepth 100000 in
theorem weighbridgeref03_Update32_p.calls (a0 : Int) (a1 : Int) (a2 : Int) (r : Int) (w : World) (h : weighbridgeref03_Update32_p.f a0 a1 a2 = some r) :
  Calls Tryz.prog 46 #[.int .u16 a0, .int .u32 a1, .int .u32 a2] w fun e w' => e = .returned (.int .u16 r) ∧ Drawn0 w w' := by
 have H := h
 unfold weighbridgeref03_Update32_p.f at H
 clear h
 replace H := OB H
 obtain ⟨t458, A4, H⟩ := H
 (try set_option simprocs false in dsimp only at H)
 replace H := OB H
 obtain ⟨t459, A5, H⟩ := H
 (try set_option simprocs false in dsimp only at H)
 obtain rfl := Option.some.inj H
 go_enter Tryz.func46, Tryz.ntmps46
 go_wp2_with (first | ((with_reducible refine gkx 30 rfl ?_); refine gL 14 Tryz.func30 rfl (weighbridgeref03_Update.calls a0 (IntKind.u16.wrap (a1 / 65536)) (IntKind.u16.wrap (a2 / 65536)) t458 _ A4.out) ?_; rintro w' ⟨nd, rfl⟩) | ((with_reducible refine gkx 30 rfl ?_); refine gL 19 Tryz.func30 rfl (weighbridgeref03_Update.calls t458 (IntKind.u16.wrap (a1)) (IntKind.u16.wrap (a2)) t459 _ A5.out) ?_; rintro w' ⟨nd, rfl⟩))
 go_ret
 exact ⟨RS, DW⟩

theorem r3_mod (n : Int) : IntKind.u16.wrap n = n % 65536 := by simp [IntKind.wrap, IntKind.bits, IntKind.signed]
theorem r3_Update32_ev {a0 a1 a2 : Int} (h0 : 0 ≤ a0 ∧ a0 ≤ 65535) (h1 : 0 ≤ a1 ∧ a1 ≤ 4294967295) (h2 : 0 ≤ a2 ∧ a2 ≤ 4294967295) : weighbridgeref03_Update32_p.f a0 a1 a2 = some (Sp.update32 a0 a1 a2) := by
 unfold weighbridgeref03_Update32_p.f
 rw [r3_u16 (n := a1 / 65536) (by omega) (by omega), r3_u16 (n := a2 / 65536) (by omega) (by omega), r3_mod a1, r3_mod a2, weighbridgeref03_Update_eq h0 (by omega) (by omega), Option.bind_some, weighbridgeref03_Update_eq (r3_update_bounds h0.2 (by omega) (by omega)) (by omega) (by omega)]
 rfl
def weighbridgeref03_Update32.f (a0 a1 a2 : Int) : Option Int := if r3_16 a0 && r3_32 a1 && r3_32 a2 then some (Sp.update32 a0 a1 a2) else none
theorem weighbridgeref03_Update32_eq {a0 a1 a2 : Int} (h0 : 0 ≤ a0 ∧ a0 ≤ 65535) (h1 : 0 ≤ a1 ∧ a1 ≤ 4294967295) (h2 : 0 ≤ a2 ∧ a2 ≤ 4294967295) : weighbridgeref03_Update32.f a0 a1 a2 = some (Sp.update32 a0 a1 a2) := by
 unfold weighbridgeref03_Update32.f; rw [if_pos (by simp [r3_16, r3_32, h0, h1, h2])]
theorem weighbridgeref03_Update32.calls (a0 : Int) (a1 : Int) (a2 : Int) (r : Int) (w : World) (h : weighbridgeref03_Update32.f a0 a1 a2 = some r) :
  Calls Tryz.prog 46 #[.int .u16 a0, .int .u32 a1, .int .u32 a2] w fun e w' => e = .returned (.int .u16 r) ∧ Drawn0 w w' := by
 unfold weighbridgeref03_Update32.f at h
 split at h
 case isFalse => cases h
 case isTrue hs =>
  simp only [r3_16, r3_32, Bool.and_eq_true, decide_eq_true_eq] at hs
  exact weighbridgeref03_Update32_p.calls a0 a1 a2 r w ((r3_Update32_ev hs.1.1 hs.1.2 hs.2).trans h)

end Go.Proofs.YtfnjohklmpiboaaGreat.Pr
