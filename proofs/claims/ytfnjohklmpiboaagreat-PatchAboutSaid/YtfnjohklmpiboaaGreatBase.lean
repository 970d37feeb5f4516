-- trimmed by trims.py
/- Small laws of the walk and of numbers that the contracts share; no program in sight. -/
import Derived.Test.YtfnjohklmpiboaaGreatSpec
import Derived.Below
import Derived.Deep.Draws
import Derived.Deep.AppendLies
import Derived.Maps.AppendAt
import Derived.OwnWalk
import Derived.Laws.BytesArg
import Derived.Laws.MakeOwn
import Derived.Laws.OwnMore
import Derived.Deep.OwnRows
import Derived.Tactics
import Derived.Lib.ConvBytes
import Derived.Laws.Slices
import Derived.WalkKit
import Derived.KernelRfl
import Derived.RowKit3
import Derived.Deep.LoopGhost
import Derived.Deep.QuietTactic
import Derived.BigQuiet
import Derived.WideLaws
import Derived.Deep.DeepCutAuto
import Derived.Deep.CutBlock
import Derived.Deep.RegionHeld3
import Derived.Laws.Rows
import Derived.Lib.AppendStr
import Derived.ArgAppend
import Derived.Laws.IdiomCopy
import Derived.OrdersHeld
import Derived.Laws.BitsLemmas
import Derived.RowKit
import Derived.Maps.Own
import Derived.Maps.OwnSet
import Derived.Maps.OwnOps
import Derived.Maps.Views
import Derived.Lib.Hide
import Derived.Outline
import Derived.RangeFuncNested
import Derived.RangeFuncBound
import Derived.RangeFuncCalls
import Derived.RangeFuncLeaves
import Derived.Shelf.Abstract
import Derived.Shelf.RegionOpen
import Derived.OwnWalkIn
import Derived.TacticsInMore
import Derived.LoopNIn
import Derived.LoopIn
import Derived.OneCell
import Derived.Lib.UnsafeStr
import Derived.Test.YtfnjohklmpiboaaGreatWWords
import Derived.Test.YtfnjohklmpiboaaGreatWLast
import Derived.Test.YtfnjohklmpiboaaGreatWTab
import Derived.Test.YtfnjohklmpiboaaGreatWFour
import Derived.Test.YtfnjohklmpiboaaGreatWQPut
import Derived.Test.YtfnjohklmpiboaaGreatWApart
import Derived.Test.YtfnjohklmpiboaaGreatWArr
import Derived.Test.YtfnjohklmpiboaaGreatWZeros
import Derived.Test.YtfnjohklmpiboaaGreatWFoot
import Derived.Test.YtfnjohklmpiboaaGreatWKept
import Derived.Test.YtfnjohklmpiboaaGreatWShare
import Derived.Test.YtfnjohklmpiboaaGreatWN
import Derived.Test.YtfnjohklmpiboaaGreatWFootNe
import Derived.Test.YtfnjohklmpiboaaGreatWAt
import Derived.Test.YtfnjohklmpiboaaGreatWEqStruct
import Derived.Test.YtfnjohklmpiboaaGreatWRepsOne
import Derived.Test.YtfnjohklmpiboaaGreatWInv
import Derived.Test.YtfnjohklmpiboaaGreatWInvWords
import Derived.Test.YtfnjohklmpiboaaGreatWGuard
import Derived.Test.YtfnjohklmpiboaaGreatWNEv
import Derived.Test.YtfnjohklmpiboaaGreatWMore
set_option linter.unusedVariables false
set_option linter.unusedSimpArgs false
namespace Go.Proofs.YtfnjohklmpiboaaGreat.Pr
open Go.RowKit Go.Proofs.YtfnjohklmpiboaaGreatW.PrintWords Go.Proofs.YtfnjohklmpiboaaGreatW.PrintLast Go.Proofs.YtfnjohklmpiboaaGreatW.PrintMore
open Go.Proofs.YtfnjohklmpiboaaGreat.Sp
open Go.Maps
/-- The bits of k, n of them. -/
def bm (n k : Nat) : Array Bool := ((List.range n).map k.testBit).toArray
/-- What lies at block b stays as it is. -/
def KeepsAt (b : Nat) (o : Obj) (W W' : World) : Prop := W.heap[b]? = some o → W'.heap[b]? = some o
theorem keepsAt_t {b : Nat} {o : Obj} {A B C : World} (h : KeepsAt b o A B) (k : KeepsAt b o B C) : KeepsAt b o A C := fun e => k (h e)
theorem keepsAt_b {b : Nat} {ob : Obj} (hob : ob.isCells = true) {n : Nat} (W : World) (l : Nat) (o o' : Obj) (_ : n ≤ l) (h : W.heap[l]? = some o) (ho : o.isCells = false) (_ : o.isWalk = false) : KeepsAt b ob W (W.putObj l o') := fun e => by
  have hne : b ≠ l := fun hh => by subst hh; rw [h] at e; injection e with e; subst e; rw [hob] at ho; cases ho
  exact (World.putObj_heap_other (by omega)).trans e
theorem keepsAt_set {b : Nat} {ob : Obj} {W : World} {p : Addr} (u : Value) (h : b ≠ p.block) : KeepsAt b ob W (W.setCell p u) := fun e => (Below.heap_setCell _ _ _ _ h).trans e
theorem str_box {W : World} {b : Nat} {s : ByteArray} {t : TypeId} (h : W.heap[b]? = some (.cells #[.string s] t (0, 0))) : W.cell? ⟨b, 0, none⟩ = some (.string s) := (cell_of_row W b 0 #[.string s] t (0, 0) h).trans rfl
theorem take_one (s : ByteArray) (k : Nat) (h : k < s.size) : (bl s).take (k + 1) = (bl s).take k ++ [s[k]] := by
  rw [List.take_succ_eq_append_getElem (by simpa using h)]; rfl
theorem cell_of_box_l {W : World} {B : Nat} {v : Value} {t : TypeId} (h : W.heap[B]? = some (.cells #[v] t (0, 0))) : W.cell? ⟨B, 0, none⟩ = some v ∧ W.frozen? ⟨B, 0, none⟩ = false := by
  constructor <;> simp [World.cell?, World.frozen?, h]
theorem cell_new_l (W : World) (v : Value) (t : TypeId) : (W.alloc (.cells #[v] t)).cell? ⟨W.heap.size, 0, none⟩ = some v ∧ (W.alloc (.cells #[v] t)).frozen? ⟨W.heap.size, 0, none⟩ = false :=
  cell_of_box_l (World.alloc_heap_new W _)
theorem cell_alloc_l {W : World} {a : Addr} {v : Value} (o : Obj) (h : W.cell? a = some v) : (W.alloc o).cell? a = some v := cell_kept h (World.grownBy_alloc W o none) (fun r e => by cases e)
theorem frozen_alloc_l {W : World} {a : Addr} {v : Value} (o : Obj) (h : W.cell? a = some v) (hf : W.frozen? a = false) : (W.alloc o).frozen? a = false := (frozen_kept h (World.grownBy_alloc W o none) (fun r e => by cases e)).trans hf
def big : Nat := 281474976710656
theorem wrap_id {n : Int} (h0 : -9223372036854775808 ≤ n) (h1 : n ≤ 9223372036854775807) : wrap64 n = n := by unfold wrap64; omega
theorem bits_byte {x y : Int} (h0 : 0 ≤ x) (h1 : x < 9007199254740992) (hy0 : 0 ≤ y) (hy : y < 256) : Go.bits .or .i64 (x * 256) y = x * 256 + y :=
  bits_join .i64 62 (by decide) (fun n a b => by rw [IntKind.wrap_i64]; omega) 8 (x * 256) y (by omega) (by omega) (by omega) hy0 (by omega) (by omega)
theorem shr_nat {x : Int} (k : Nat) (hk : k ≤ 64) : shr .i64 x (k : Int) = x / 2 ^ k := by
  unfold shr
  rw [Int.toNat_natCast, show IntKind.bits .i64 = 64 from rfl, Nat.min_eq_left hk]
theorem bt_bl (s : ByteArray) (i : Int) (h : i.toNat < s.size) : bt s i = (((bl s)[i.toNat]'(by simpa using h)).toNat : Int) := by
  unfold bt; rw [dif_pos h]; rfl
theorem ref01_wrap {n : Int} (h0 : -9223372036854775808 ≤ n) (h1 : n ≤ 9223372036854775807) : wrap64 n = n := by unfold wrap64; omega
theorem r6_wrap {n : Int} (h0 : -9223372036854775808 ≤ n) (h1 : n ≤ 9223372036854775807) : wrap64 n = n := by unfold wrap64; omega
def big01 : Nat := 281474976710656
theorem one_byte (n : Int) : strOfNums [n % 256] = lb [UInt8.ofNat (n % 256).toNat] := rfl
theorem shl_one {y : Nat} (h : y ≤ 32) : shl .i64 1 (y : Int) = 2 ^ y := by
  unfold shl
  rw [Int.toNat_natCast, show IntKind.bits .i64 = 64 from rfl, Nat.min_eq_left (by omega), IntKind.wrap_i64]
  have : (2 : Int) ^ y ≤ 2 ^ 32 := by exact_mod_cast Nat.pow_le_pow_right (by decide) h
  have : (0 : Int) < 2 ^ y := Int.pow_pos (by decide)
  omega
theorem ref01w_wrap {n : Int} (h0 : -9223372036854775808 ≤ n) (h1 : n ≤ 9223372036854775807) : wrap64 n = n := by unfold wrap64; omega
theorem ref01w_bt (s : ByteArray) (i : Int) (h : i.toNat < s.size) : bt s i = (((bl s)[i.toNat]'(by simpa using h)).toNat : Int) := by
  unfold bt; rw [dif_pos h]; rfl
theorem wrap_u64 {n : Int} (h0 : 0 ≤ n) (h1 : n ≤ 18446744073709551615) : IntKind.u64.wrap n = n := IntWalk.u64_in n ⟨h0, h1⟩
theorem wrap_u16 {n : Int} (h0 : 0 ≤ n) (h1 : n ≤ 65535) : IntKind.u16.wrap n = n := IntWalk.u16_in n ⟨h0, h1⟩
theorem and_low {n : Int} (h0 : 0 ≤ n) (h1 : n ≤ 18446744073709551615) : Go.bits .and .u64 n 65535 = n % 65536 :=
  bits_mask .u64 64 (by decide) (fun n a b => wrap_u64 a (by omega)) 16 (by decide) n h0 (by omega)
theorem r3_u64 {n : Int} (h0 : 0 ≤ n) (h1 : n ≤ 18446744073709551615) : IntKind.u64.wrap n = n := IntWalk.u64_in n ⟨h0, h1⟩
theorem r3_u16 {n : Int} (h0 : 0 ≤ n) (h1 : n ≤ 65535) : IntKind.u16.wrap n = n := IntWalk.u16_in n ⟨h0, h1⟩
theorem r3_sum_bounds (m : List Int) : (∀ x ∈ m, 0 ≤ x ∧ x ≤ 65535) → 0 ≤ m.sum ∧ m.sum ≤ 65535 * (m.length : Int) := by
  induction m with
  | nil => intro _; simp
  | cons x m ihm => intro h; have a := h x (by simp); have b := ihm (fun y hy => h y (by simp [hy])); rw [List.sum_cons, List.length_cons]; omega
/-- An insert of a map's literal into a map of the call's own. -/
theorem wpList_insert_own {H : Type} {P : Program} (w : World) {ops : Array Oper} {rest : List Oper} {o : Oper} {a : Act} {Q : Exit → Act → World → Prop}
    (hg : o.guard = none) (m x v : Operand) (t : TypeId) (hop : o.op = Op.insert t m x v)
    (k e : TypeId) (K : Keyed P k) (ht : P.underlying t = some (.map k e)) (R : Value → Option (DataW H × List MemPlace)) (b n : Nat) (D : DataW H)
    (hm : a.eval m = .map (some b)) (hown : w.ownsMap P k R b n D) (hn : n < maxLen) (key val : Value) (kl : Lit) (hx : a.eval x = key) (hv : a.eval v = val) (hkey : keyOf P k key = some kl)
    (d : DataW H) (ps : List MemPlace) (hval : R val = some (d, ps))
    (hK : ∀ w', w'.ownsMap P k R b (n + 1) (D.put kl d) → w.grownBy w' (some b) → wpList P ops Q rest (a.put o.dst undef) w') :
    wpList P ops Q (o :: rest) a w := by
  refine wpList_plain hg fun K' hK' => ?_
  obtain ⟨w', hrun, r1, r2⟩ := hown.update K ht hn hkey hval
  unfold Oper.wp
  simp [execOp, hop, hm, hx, hv, hrun, Result.andThen]
  exact hK' _ _ (hK w' r1 r2)
theorem unary_xor_u16 (n : Int) : Op.unary .xor (.int .u16 n) = Op.intBits .xor .u16 65535 n := rfl
attribute [go_sem high] unary_xor_u16
def i64in (n : Int) : Bool := decide (-9223372036854775808 ≤ n ∧ n ≤ 9223372036854775807)
theorem i64wf {n : Int} (h : i64in n = true) : (Lit.int .i64 n).wf = true := by
  have := of_decide_eq_true h
  simp [Lit.wf, IntKind.min, IntKind.max, IntKind.bits, IntKind.signed]; omega
/-! ### '[]byte(s)': the new row is as a row of the call's own, but for the mark behind it -/
def numsOf (s : ByteArray) : List Int := s.data.toList.map fun b => (b.toNat : Int)
theorem numsOf_length (s : ByteArray) : (numsOf s).length = s.size := by simp [numsOf]
theorem nums_set' (k : IntKind) (xs : List Int) (i : Nat) (x : Int) : nums k (xs.set i x) = (nums k xs).set i (.int k x) := by simp [nums, List.map_set]
theorem i4_bt0 {x : UInt8} {r : List UInt8} {s : ByteArray} (e : bl s = x :: r) : bt s 0 = (x.toNat : Int) := by
  obtain rfl : s = lb (x :: r) := Sp.bl_inj (by rw [e, Sp.bl_lb])
  rfl
theorem i4_bt1 {x y : UInt8} {r : List UInt8} {s : ByteArray} (e : bl s = x :: y :: r) : bt s 1 = (y.toNat : Int) := by
  obtain rfl : s = lb (x :: y :: r) := Sp.bl_inj (by rw [e, Sp.bl_lb])
  rfl
theorem heap_alloc'' {W : World} {x : Obj} {B : Nat} (o : Obj) (h : W.heap[B]? = some x) : (W.alloc o).heap[B]? = some x := by
  have hl := (Array.getElem?_eq_some_iff.1 h).1
  simp only [World.alloc, Array.getElem?_push]
  rw [if_neg (by omega)]; exact h
theorem i4_heap_step {W W' : World} {x : Obj} {B : Nat} (h : W.heap[B]? = some x) (hb : Below W.heap.size W W') : W'.heap[B]? = some x := by
  rw [hb.block _ (Array.getElem?_eq_some_iff.1 h).1]; exact h
namespace Kb
def Q (_ : Kd Int) (e : Nat) (w : World) (base : Nat) (ok : Nat → Prop) (v : Value) (xs : List Int) : Prop :=
  (∀ k, v.ownBlock = some k → ok k) ∧ ∃ g cap cur, v = .slice (some ⟨g, 0, none⟩) xs.length cap ∧ base ≤ g ∧ w.heap[g]? = some (.cells cur e (cap, cap + 1)) ∧ xs.length ≤ cap ∧ cap ≤ maxLen ∧ cur.size = cap ∧ cur.toList.take xs.length = nums .u8 xs
section
variable {d : Kd Int} {e : Nat} {w w1 W : World} {base : Nat} {ok ok' : Nat → Prop} {v : Value} {xs : List Int}
theorem Q_mono (h : Q d e w base ok v xs) (hok : ∀ k, ok k → ok' k) : Q d e w base ok' v xs := ⟨fun k hk => hok k (h.1 k hk), h.2⟩
theorem Q_lt (h : Q d e w base ok v xs) : ∀ k, v.ownBlock = some k → k < w.heap.size := by
  obtain ⟨_, g, cap, cur, rfl, _, hh, _⟩ := h
  intro k hk
  have : g = k := by simpa [Value.ownBlock] using hk
  subst this
  exact (Array.getElem?_eq_some_iff.1 hh).1
theorem Q_base (h : Q d e w base ok v xs) : ∀ k, v.ownBlock = some k → base ≤ k := by
  obtain ⟨_, g, cap, cur, rfl, hb, hh, _⟩ := h
  intro k hk
  have : g = k := by simpa [Value.ownBlock] using hk
  subst this
  exact hb
theorem Q_bound (h : Q d e w base ok v xs) : Q d e w base (fun k => ok k ∧ base ≤ k ∧ k < w.heap.size ∧ True) v xs := ⟨fun k hk => ⟨h.1 k hk, Q_base h k hk, Q_lt h k hk, trivial⟩, h.2⟩
theorem Q_move (h : Q d e w base ok v xs) (hm : ∀ k, ok k → w1.heap[k]? = w.heap[k]?) : Q d e w1 base ok v xs := by
  obtain ⟨h0, g, cap, cur, rfl, hb, hh, r⟩ := h
  exact ⟨h0, g, cap, cur, rfl, hb, (hm g (h0 g rfl)).trans hh, r⟩
theorem Q_lower {base' : Nat} (h : Q d e w base ok v xs) (hb : base' ≤ base) : Q d e w base' ok v xs := by
  obtain ⟨h0, g, cap, cur, hv, hg, r⟩ := h
  exact ⟨h0, g, cap, cur, hv, Nat.le_trans hb hg, r⟩
theorem Q_step (h : Q d e w base ok v xs) (hm : ∀ k, ok k → k < w.heap.size → w1.heap[k]? = w.heap[k]?) : Q d e w1 base ok v xs :=
  Q_mono (Q_move (Q_bound h) (fun k hk => hm k hk.1 hk.2.2.1)) (fun _ hk => hk.1)
theorem Q_below (h : Q d e w base ok v xs) (hb : Below w.heap.size w w1) : Q d e w1 base ok v xs := Q_step h (fun k _ hk => hb.block k hk)
theorem Q_drew (h : Q d e w base ok v xs) : Q d e w.drew base ok v xs := Q_below h (below_drew (Below.refl _ _))
theorem Q_slice (h : Q d e w base ok v xs) : ∃ A c, v = .slice A xs.length c ∧ xs.length ≤ c := by
  obtain ⟨_, g, cap, cur, rfl, _, _, hl, _⟩ := h
  exact ⟨_, cap, rfl, hl⟩
theorem Q_form (h : Q d e w base ok v xs) (_ : 0 < xs.length) : ∃ g cap, v = .slice (some ⟨g, 0, none⟩) xs.length cap ∧ base ≤ g ∧ g < w.heap.size ∧ ∃ cells, w.heap[g]? = some (.cells cells e (cap, cap + 1)) := by
  obtain ⟨_, g, cap, cur, rfl, hb, hh, _⟩ := h
  exact ⟨g, cap, rfl, hb, (Array.getElem?_eq_some_iff.1 hh).1, cur, hh⟩
/-- an element's cell, and that it may be written -/
theorem Q_cell {g n cap : Nat} (z : Int) (h : Q d e W base ok (.slice (some ⟨g, 0, none⟩) n cap) xs) (i : Int) (h0 : 0 ≤ i) (hi : i < n) :
    W.cell? ⟨g, i.toNat, none⟩ = some (.int .u8 (rdOf z xs i)) ∧ W.frozen? ⟨g, i.toNat, none⟩ = false := by
  obtain ⟨_, g', cap', cur, hv, hb, hh, hl, hm, hs, ht⟩ := h
  injection hv with h1 h2 h3
  injection h1 with h1
  injection h1 with h1 h4
  subst h1; subst h2; subst h3
  have hlt : i.toNat < xs.length := by omega
  have hc : cur[i.toNat]? = some (.int .u8 (rdOf z xs i)) := by
    have h5 : (cur.toList.take xs.length)[i.toNat]? = (nums .u8 xs)[i.toNat]? := by rw [ht]
    rw [List.getElem?_take, if_pos hlt, Array.getElem?_toList] at h5
    rw [h5]
    simp [nums, rdOf, List.getElem?_eq_getElem hlt, List.getD_eq_getElem?_getD]
  constructor
  · simp only [World.cell?, hh]; exact hc
  · simp only [World.frozen?, hh]; simp; omega
theorem Q_putg {g n cap : Nat} (h : Q d e W base ok (.slice (some ⟨g, 0, none⟩) n cap) xs) (i : Int) (h0 : 0 ≤ i) (hi : i < n) (x : Int) :
    Q d e (W.setCell ⟨g, i.toNat, none⟩ (.int .u8 x)) base ok (.slice (some ⟨g, 0, none⟩) n cap) (xs.set i.toNat x) ∧ True := by
  obtain ⟨hk, g', cap', cur, hv, hb, hh, hl, hm, hs, ht⟩ := h
  injection hv with h1 h2 h3
  injection h1 with h1
  injection h1 with h1 h4
  subst h1; subst h2; subst h3
  refine ⟨⟨hk, g, cap, cur.setIfInBounds i.toNat (.int .u8 x), by rw [List.length_set], hb, ?_, by rw [List.length_set]; exact hl, hm, by simpa using hs, ?_⟩, trivial⟩
  · simp [World.setCell, Array.getElem?_modify, hh]
  · rw [List.length_set]
    rw [Array.toList_setIfInBounds, nums_set', ← ht]
    apply List.ext_getElem?
    intro j
    simp only [List.getElem?_take, List.getElem?_set, List.length_take, Array.length_toList]
    by_cases hj : j < xs.length
    · rw [if_pos hj, if_pos hj]
      by_cases hij : i.toNat = j
      · rw [if_pos hij, if_pos hij, if_pos (by omega), if_pos (by omega)]
      · rw [if_neg hij, if_neg hij]
    · rw [if_neg hj, if_neg hj]
      by_cases hij : i.toNat = j
      · omega
      · rw [if_neg hij]
theorem Q_reads' {A : Option Addr} {n c : Nat} (h : Q (Kd.int .u8) e w base ok (.slice A n c) xs) : n = xs.length ∧ n ≤ c ∧ (Kd.int .u8).C w A xs.length xs := by
  have h' := h
  obtain ⟨_, g, cap, cur, hv, hb, hh, hl, hm, hs, ht⟩ := h'
  injection hv with h1 h2 h3
  subst h1; subst h2; subst h3
  refine ⟨rfl, hl, rfl, Nat.le_trans hl hm, fun hp => ⟨_, rfl, fun j p hj => ⟨[.int .u8 p], rfl, rfl, fun i u hu => ?_⟩⟩⟩
  have hj' := (List.getElem?_eq_some_iff.1 hj).1
  have hq := (Q_cell 0 h (j : Int) (by omega) (by omega)).1
  match i, hu with
  | 0, hu =>
    simp only [List.getElem?_cons_zero, Option.some.injEq] at hu
    subst hu
    have e1 : rdOf 0 xs (j : Int) = p := by simp [rdOf, List.getD_eq_getElem?_getD, hj]
    rw [e1] at hq
    show w.cell? ((⟨g, 0, none⟩ : Addr).add (j * 1 + 0)) = _
    have ha : (⟨g, 0, none⟩ : Addr).add (j * 1 + 0) = ⟨g, ((j : Int)).toNat, none⟩ := by unfold Addr.add; split <;> simp_all
    rw [ha]; exact hq
theorem Q_string {P : Program} {src dst e' : TypeId} (hs : P.underlying src = some (.slice e')) (he : P.underlying e' = some (.int .u8)) (hd : P.underlying dst = some .string)
    (h : Q d e w base ok v xs) : (convert src dst v).run P w = .ok (.string (strOfNums xs)) w := by
  have h' := h
  obtain ⟨_, g, cap, cur, rfl, hb, hh, hl, hm, hsz, ht⟩ := h'
  refine run_convert_bytes_arg w src e' hs he g 0 xs.length cap xs rfl (fun i hi => ?_) dst hd
  have hq := (Q_cell 0 h (i : Int) (by omega) (by omega)).1
  have e1 : rdOf 0 xs (i : Int) = xs.getD i 0 := by simp [rdOf]
  rw [e1] at hq
  simpa using hq
section
variable {P : Program} {ops : Array Oper} {rest : List Oper} {o : Oper} {a : Act} {Q' : Exit → Act → World → Prop}
theorem Q_conv (d : Kd Int) {W : World} (e : Nat) (hgd : o.guard = none) {N : Tmp} (_hd : o.dst = some N) (src t : TypeId) (x : Operand) (ho : o.op = .convert src t x) (s : ByteArray) (hx : a.eval x = .string s)
    {u : TypeDesc} (hs : P.underlying src = some u) (ht : P.underlying t = some (.slice e)) (he : P.underlying e = some (.int .u8)) {ok : Nat → Prop} (hfresh : ok W.heap.size) (hl : s.size ≤ 281474976710656)
    (h : ∀ v1 w1, Q d e w1 W.heap.size ok v1 (numsOf s) → Below W.heap.size W w1 → True → (∃ b, v1.ownBlock = some b ∧ W.heap.size ≤ b) → wpList P ops Q' rest (a.put o.dst v1) w1) : wpList P ops Q' (o :: rest) a W := by
  have hg := grownCap_ge W s.size 0 e
  have hz : (Lib.bytesCells W e s).size = grownCap W s.size 0 e := by
    have : s.data.size = s.size := rfl
    simp [Lib.bytesCells]; omega
  refine Kd.event_run hgd (v := .slice (some ⟨W.heap.size, 0, none⟩) s.size (grownCap W s.size 0 e)) (w1 := Lib.bytesWorld W e s) ?_ (h _ _ ⟨fun k hk => ?_, W.heap.size, grownCap W s.size 0 e, Lib.bytesCells W e s, by rw [numsOf_length], Nat.le_refl _, ?_, by rw [numsOf_length]; exact hg, grownCap_le_maxLen W _ _ e (by unfold maxLen; omega), hz, ?_⟩ ?_ trivial ⟨W.heap.size, by simp [Value.ownBlock], Nat.le_refl _⟩)
  · have hr := Lib.run_convert_string_bytes (P := P) W src t e s hs ht he
    simp [execOp, ho, hx, hr]
  · have : W.heap.size = k := by simpa [Value.ownBlock] using hk
    subst this
    exact hfresh
  · rw [Lib.bytesWorld_at_new, hz]
  · rw [numsOf_length]
    have h1 : s.data.toList.length = s.size := by simp
    simp only [Lib.bytesCells, Array.toList_append, Array.toList_map]
    rw [List.take_left' (by rw [List.length_map]; exact h1)]
    simp [nums, numsOf]
  · unfold Lib.bytesWorld
    exact Lib.below_freeze (below_alloc (below_drew (Below.refl _ _)) _) (Nat.le_refl _) _
end
end
end Kb
/-! Short words for what the printed walks say again and again (tools/zip2.py). -/
theorem BW {P Q : Prop} (h : Aside0 P) (q : P → Q := by intro HB; repeat (first | (with_reducible first | exact HB | apply below_alloc | apply pw_below_drewN | apply below_drew1 | refine below_set ?_ (Aside0.out (by assumption))) | exact HB)) : Q := q h.out
theorem BD {P Q : Prop} (h : Aside0 P) (q : P → Q := by intro BK; (with_reducible repeat (first | refine blk_drewN ?_ _ | refine blk_drew ?_ | refine blk_alloc ?_ _)); exact BK) : Q := q h.out
theorem BE {P Q : Prop} (h : Aside0 P) (q : P → Q := by intro BK; (repeat' (first | (with_reducible exact BK) | (with_reducible apply blk_drewN) | (with_reducible apply blk_drew) | (with_reducible apply blk_alloc) | (with_reducible apply blk_far (hp := Aside0.out (by assumption))) | apply blk_put)); (all_goals first | (simp only [List.setIfInBounds_toArray, List.set_cons_zero, List.set_cons_succ]; done) | (simp only [List.setIfInBounds_toArray, List.set_cons_zero, List.set_cons_succ]; rfl) | rfl)) : Q := q h.out
theorem RT {Q : Prop} (q : Q := by first | rfl | (simp [errW_none, errW_some] <;> rfl) | (simp [*, errW_none, errW_some] <;> rfl)) : Q := q
theorem AG {Q : Prop} (q : Q := by (try simp only [List.map_toArray, List.map_cons, List.map_nil]); first | done | rfl | (simp only [List.length_drop, List.length_take]; rfl)) : Q := q
theorem zpA {α : Type} {l : List α} {i : Nat} {a : α} : l.toArray.setIfInBounds i a = (l.set i a).toArray := List.setIfInBounds_toArray l i a
theorem zpO {α : Type} {x : α} {xs : List α} {a : α} : (x :: xs).set 0 a = a :: xs := rfl
theorem zpS {α : Type} {x : α} {xs : List α} {i : Nat} {a : α} : (x :: xs).set (i + 1) a = x :: xs.set i a := rfl
abbrev rr14 (a b c d e f g h i j k l m n : Int) : Array Value := #[.int .i64 a, .int .i64 b, .int .i64 c, .int .i64 d, .int .u32 e, .int .u32 f, .int .i64 g, .int .i64 h, .int .i64 i, .int .i64 j, .int .u32 k, .int .u32 l, .int .i64 m, .int .i64 n]
abbrev rr9 (a b c d e f g h : Int) (s : ByteArray) : Array Value := #[.int .i64 a, .int .i64 b, .int .i64 c, .int .i64 d, .int .i64 e, .int .i64 f, .int .u32 g, .int .u32 h, .string s]
abbrev rr11 (a b c d e f g : Int) (s : ByteArray) (z : Bool) (h i : Int) : Array Value := #[.int .u8 a, .int .u32 b, .int .u32 c, .int .u16 d, .int .u16 e, .int .u8 f, .int .u8 g, .string s, .bool z, .int .u32 h, .int .u32 i]
abbrev rr8 (a b c d e f g : Int) (s : ByteArray) : Array Value := #[.int .i64 a, .int .i64 b, .int .u32 c, .int .u32 d, .int .i64 e, .int .i64 f, .int .i64 g, .string s]
theorem DD {p : Prop} (h : p := by first | exact ⟨rfl, _, World.drewN_drewN _ _ _⟩ | exact ⟨rfl, _, Eq.trans (World.drewN_drewN _ _ _) (congrArg (World.drewN _) (Nat.add_assoc _ _ _))⟩) : p := h
theorem pu {P : Program} {ops : Array Oper} {Q : Exit → Act → World → Prop} {md : Region.Mode} {S : World → Prop} {ds : List Nat} {T : Bool × List (List Nat × List Nat)} {oi : Oper} {v : Value} {fuel : Nat} {l : Array Bool} {a a' : Act} {w : World} (i n : Nat) (l' : Array Bool) (hT : Aside0 (rtab md ops = T)) (h : wpAnyLast P md ops Q S ds fuel l' a' w) (hi : ops[i]? = some oi := by rfl) (hN : oi.dst = some n := by rfl) (hc : anyT T l.toList l'.toList i = true := by kernel_rfl) (hQ : ∀ c a w, Q (.panic c) (a.put oi.dst v) w → Q (.panic c) a w := by exact fun _ _ _ h => h) (hy : Yields P ops oi v a := by refine Or.inl ⟨by rfl, ?_⟩; intro w'; go_simp; with_reducible rfl) (ha : a.put (some n) v = a' := by simp only [Act.put, zpA, zpO, zpS, i64_w, i32_w]; rfl) : wpAnyLast P md ops Q S ds (fuel + 1) l a w := pure_ (i := i) (N := some n) l' hi hN (any_of hT.out hc) hQ hy ha h
theorem pk {P : Program} {ops : Array Oper} {Q : Exit → Act → World → Prop} {md : Region.Mode} {S : World → Prop} {ds : List Nat} {oi : Oper} {v : Value} {fuel : Nat} {l : Array Bool} {a a' : Act} {w : World} (i n : Nat) (l' : Array Bool) (h : wpAnyLast P md ops Q S ds fuel l' a' w) (hi : ops[i]? = some oi := by rfl) (hN : oi.dst = some n := by rfl) (hc : anyB md ops l l' i = true := by kernel_rfl) (hQ : ∀ c a w, Q (.panic c) (a.put oi.dst v) w → Q (.panic c) a w := by exact fun _ _ _ h => h) (hy : Yields P ops oi v a := by refine Or.inl ⟨by rfl, ?_⟩; intro w'; go_simp; with_reducible rfl) (ha : a.put (some n) v = a' := by simp only [Act.put, zpA, zpO, zpS, i64_w, i32_w]; rfl) : wpAnyLast P md ops Q S ds (fuel + 1) l a w := pure_ (i := i) (N := some n) l' hi hN hc hQ hy ha h
theorem tk1 {P : Program} {ops : Array Oper} {Q : Exit → Act → World → Prop} {md : Region.Mode} {S : World → Prop} {ds : List Nat} {oi : Oper} {v : Value} {fuel : Nat} {l : Array Bool} {a a' : Act} {w : World} (i n : Nat) (l' : Array Bool) (hS : S w) (h : wpAnyLast P md ops Q S ds fuel l' a' w) (hi : ops[i]? = some oi := by rfl) (hN : oi.dst = some n := by rfl) (hc : takeB md ops ds l l' i = true := by kernel_rfl) (hQ : ∀ c a w, Q (.panic c) (a.put oi.dst v) w → Q (.panic c) a w := by exact fun _ _ _ h => h) (hy : YieldsIf P ops S oi v a := by refine Or.inl ⟨by rfl, ?_⟩; intro w' s0; go_simp; with_reducible rfl) (ha : a.put (some n) v = a' := by simp only [Act.put, zpA, zpO, zpS, i64_w, i32_w]; rfl) : wpAnyLast P md ops Q S ds (fuel + 1) l a w := take_ (i := i) (N := some n) l' hi hN hc hQ hy hS ha h
theorem tw1 {P : Program} {ops : Array Oper} {Q : Exit → Act → World → Prop} {md : Region.Mode} {S : World → Prop} {ds : List Nat} {oi : Oper} {v : Value} {fuel : Nat} {l : Array Bool} {a a' : Act} {w : World} {T : Bool × List (List Nat × List Nat)} {B : List Nat} (i n : Nat) (l' : Array Bool) (hT : Aside0 (rtab md ops = T)) (hB : Aside0 (waitsOk T.2 B = true)) (hS : S w) (h : wpAnyLast P md ops Q S ds fuel l' a' w) (hi : ops[i]? = some oi := by rfl) (hN : oi.dst = some n := by rfl) (hc : takeW T B ds l.toList l'.toList i = true := by kernel_rfl) (hQ : ∀ c a w, Q (.panic c) (a.put oi.dst v) w → Q (.panic c) a w := by exact fun _ _ _ h => h) (hy : YieldsIf P ops S oi v a := by refine Or.inl ⟨by rfl, ?_⟩; intro w' s0; go_simp; with_reducible rfl) (ha : a.put (some n) v = a' := by simp only [Act.put, zpA, zpO, zpS, i64_w, i32_w]; rfl) : wpAnyLast P md ops Q S ds (fuel + 1) l a w := take_ (i := i) (N := some n) l' hi hN (take_ofW hT.out hB.out hc) hQ hy hS ha h
theorem blk4 {w : World} {g : Nat} {t : TypeId} {c0 c1 c2 c3 : Value} (h : w.heap[g]? = some (.cells #[c0, c1, c2, c3] t (0, 0))) : w.cell? ⟨g, 0, none⟩ = some c0 ∧ w.cell? ⟨g, 1, none⟩ = some c1 ∧ w.cell? ⟨g, 2, none⟩ = some c2 ∧ w.cell? ⟨g, 3, none⟩ = some c3 ∧ w.frozen? ⟨g, 0, none⟩ = false ∧ w.frozen? ⟨g, 1, none⟩ = false ∧ w.frozen? ⟨g, 2, none⟩ = false ∧ w.frozen? ⟨g, 3, none⟩ = false := ⟨(blk_cell h 0).trans rfl, (blk_cell h 1).trans rfl, (blk_cell h 2).trans rfl, (blk_cell h 3).trans rfl, blk_frozen h 0, blk_frozen h 1, blk_frozen h 2, blk_frozen h 3⟩
theorem blk5 {w : World} {g : Nat} {t : TypeId} {c0 c1 c2 c3 c4 : Value} (h : w.heap[g]? = some (.cells #[c0, c1, c2, c3, c4] t (0, 0))) : w.cell? ⟨g, 0, none⟩ = some c0 ∧ w.cell? ⟨g, 1, none⟩ = some c1 ∧ w.cell? ⟨g, 2, none⟩ = some c2 ∧ w.cell? ⟨g, 3, none⟩ = some c3 ∧ w.cell? ⟨g, 4, none⟩ = some c4 ∧ w.frozen? ⟨g, 0, none⟩ = false ∧ w.frozen? ⟨g, 1, none⟩ = false ∧ w.frozen? ⟨g, 2, none⟩ = false ∧ w.frozen? ⟨g, 3, none⟩ = false ∧ w.frozen? ⟨g, 4, none⟩ = false := ⟨(blk_cell h 0).trans rfl, (blk_cell h 1).trans rfl, (blk_cell h 2).trans rfl, (blk_cell h 3).trans rfl, (blk_cell h 4).trans rfl, blk_frozen h 0, blk_frozen h 1, blk_frozen h 2, blk_frozen h 3, blk_frozen h 4⟩
theorem blk8 {w : World} {g : Nat} {t : TypeId} {c0 c1 c2 c3 c4 c5 c6 c7 : Value} (h : w.heap[g]? = some (.cells #[c0, c1, c2, c3, c4, c5, c6, c7] t (0, 0))) : w.cell? ⟨g, 0, none⟩ = some c0 ∧ w.cell? ⟨g, 1, none⟩ = some c1 ∧ w.cell? ⟨g, 2, none⟩ = some c2 ∧ w.cell? ⟨g, 3, none⟩ = some c3 ∧ w.cell? ⟨g, 4, none⟩ = some c4 ∧ w.cell? ⟨g, 5, none⟩ = some c5 ∧ w.cell? ⟨g, 6, none⟩ = some c6 ∧ w.cell? ⟨g, 7, none⟩ = some c7 ∧ w.frozen? ⟨g, 0, none⟩ = false ∧ w.frozen? ⟨g, 1, none⟩ = false ∧ w.frozen? ⟨g, 2, none⟩ = false ∧ w.frozen? ⟨g, 3, none⟩ = false ∧ w.frozen? ⟨g, 4, none⟩ = false ∧ w.frozen? ⟨g, 5, none⟩ = false ∧ w.frozen? ⟨g, 6, none⟩ = false ∧ w.frozen? ⟨g, 7, none⟩ = false := ⟨(blk_cell h 0).trans rfl, (blk_cell h 1).trans rfl, (blk_cell h 2).trans rfl, (blk_cell h 3).trans rfl, (blk_cell h 4).trans rfl, (blk_cell h 5).trans rfl, (blk_cell h 6).trans rfl, (blk_cell h 7).trans rfl, blk_frozen h 0, blk_frozen h 1, blk_frozen h 2, blk_frozen h 3, blk_frozen h 4, blk_frozen h 5, blk_frozen h 6, blk_frozen h 7⟩
theorem blk9 {w : World} {g : Nat} {t : TypeId} {c0 c1 c2 c3 c4 c5 c6 c7 c8 : Value} (h : w.heap[g]? = some (.cells #[c0, c1, c2, c3, c4, c5, c6, c7, c8] t (0, 0))) : w.cell? ⟨g, 0, none⟩ = some c0 ∧ w.cell? ⟨g, 1, none⟩ = some c1 ∧ w.cell? ⟨g, 2, none⟩ = some c2 ∧ w.cell? ⟨g, 3, none⟩ = some c3 ∧ w.cell? ⟨g, 4, none⟩ = some c4 ∧ w.cell? ⟨g, 5, none⟩ = some c5 ∧ w.cell? ⟨g, 6, none⟩ = some c6 ∧ w.cell? ⟨g, 7, none⟩ = some c7 ∧ w.cell? ⟨g, 8, none⟩ = some c8 ∧ w.frozen? ⟨g, 0, none⟩ = false ∧ w.frozen? ⟨g, 1, none⟩ = false ∧ w.frozen? ⟨g, 2, none⟩ = false ∧ w.frozen? ⟨g, 3, none⟩ = false ∧ w.frozen? ⟨g, 4, none⟩ = false ∧ w.frozen? ⟨g, 5, none⟩ = false ∧ w.frozen? ⟨g, 6, none⟩ = false ∧ w.frozen? ⟨g, 7, none⟩ = false ∧ w.frozen? ⟨g, 8, none⟩ = false := ⟨(blk_cell h 0).trans rfl, (blk_cell h 1).trans rfl, (blk_cell h 2).trans rfl, (blk_cell h 3).trans rfl, (blk_cell h 4).trans rfl, (blk_cell h 5).trans rfl, (blk_cell h 6).trans rfl, (blk_cell h 7).trans rfl, (blk_cell h 8).trans rfl, blk_frozen h 0, blk_frozen h 1, blk_frozen h 2, blk_frozen h 3, blk_frozen h 4, blk_frozen h 5, blk_frozen h 6, blk_frozen h 7, blk_frozen h 8⟩
theorem blk11 {w : World} {g : Nat} {t : TypeId} {c0 c1 c2 c3 c4 c5 c6 c7 c8 c9 c10 : Value} (h : w.heap[g]? = some (.cells #[c0, c1, c2, c3, c4, c5, c6, c7, c8, c9, c10] t (0, 0))) : w.cell? ⟨g, 0, none⟩ = some c0 ∧ w.cell? ⟨g, 1, none⟩ = some c1 ∧ w.cell? ⟨g, 2, none⟩ = some c2 ∧ w.cell? ⟨g, 3, none⟩ = some c3 ∧ w.cell? ⟨g, 4, none⟩ = some c4 ∧ w.cell? ⟨g, 5, none⟩ = some c5 ∧ w.cell? ⟨g, 6, none⟩ = some c6 ∧ w.cell? ⟨g, 7, none⟩ = some c7 ∧ w.cell? ⟨g, 8, none⟩ = some c8 ∧ w.cell? ⟨g, 9, none⟩ = some c9 ∧ w.cell? ⟨g, 10, none⟩ = some c10 ∧ w.frozen? ⟨g, 0, none⟩ = false ∧ w.frozen? ⟨g, 1, none⟩ = false ∧ w.frozen? ⟨g, 2, none⟩ = false ∧ w.frozen? ⟨g, 3, none⟩ = false ∧ w.frozen? ⟨g, 4, none⟩ = false ∧ w.frozen? ⟨g, 5, none⟩ = false ∧ w.frozen? ⟨g, 6, none⟩ = false ∧ w.frozen? ⟨g, 7, none⟩ = false ∧ w.frozen? ⟨g, 8, none⟩ = false ∧ w.frozen? ⟨g, 9, none⟩ = false ∧ w.frozen? ⟨g, 10, none⟩ = false := ⟨(blk_cell h 0).trans rfl, (blk_cell h 1).trans rfl, (blk_cell h 2).trans rfl, (blk_cell h 3).trans rfl, (blk_cell h 4).trans rfl, (blk_cell h 5).trans rfl, (blk_cell h 6).trans rfl, (blk_cell h 7).trans rfl, (blk_cell h 8).trans rfl, (blk_cell h 9).trans rfl, (blk_cell h 10).trans rfl, blk_frozen h 0, blk_frozen h 1, blk_frozen h 2, blk_frozen h 3, blk_frozen h 4, blk_frozen h 5, blk_frozen h 6, blk_frozen h 7, blk_frozen h 8, blk_frozen h 9, blk_frozen h 10⟩
theorem blk14 {w : World} {g : Nat} {t : TypeId} {c0 c1 c2 c3 c4 c5 c6 c7 c8 c9 c10 c11 c12 c13 : Value} (h : w.heap[g]? = some (.cells #[c0, c1, c2, c3, c4, c5, c6, c7, c8, c9, c10, c11, c12, c13] t (0, 0))) : w.cell? ⟨g, 0, none⟩ = some c0 ∧ w.cell? ⟨g, 1, none⟩ = some c1 ∧ w.cell? ⟨g, 2, none⟩ = some c2 ∧ w.cell? ⟨g, 3, none⟩ = some c3 ∧ w.cell? ⟨g, 4, none⟩ = some c4 ∧ w.cell? ⟨g, 5, none⟩ = some c5 ∧ w.cell? ⟨g, 6, none⟩ = some c6 ∧ w.cell? ⟨g, 7, none⟩ = some c7 ∧ w.cell? ⟨g, 8, none⟩ = some c8 ∧ w.cell? ⟨g, 9, none⟩ = some c9 ∧ w.cell? ⟨g, 10, none⟩ = some c10 ∧ w.cell? ⟨g, 11, none⟩ = some c11 ∧ w.cell? ⟨g, 12, none⟩ = some c12 ∧ w.cell? ⟨g, 13, none⟩ = some c13 ∧ w.frozen? ⟨g, 0, none⟩ = false ∧ w.frozen? ⟨g, 1, none⟩ = false ∧ w.frozen? ⟨g, 2, none⟩ = false ∧ w.frozen? ⟨g, 3, none⟩ = false ∧ w.frozen? ⟨g, 4, none⟩ = false ∧ w.frozen? ⟨g, 5, none⟩ = false ∧ w.frozen? ⟨g, 6, none⟩ = false ∧ w.frozen? ⟨g, 7, none⟩ = false ∧ w.frozen? ⟨g, 8, none⟩ = false ∧ w.frozen? ⟨g, 9, none⟩ = false ∧ w.frozen? ⟨g, 10, none⟩ = false ∧ w.frozen? ⟨g, 11, none⟩ = false ∧ w.frozen? ⟨g, 12, none⟩ = false ∧ w.frozen? ⟨g, 13, none⟩ = false := ⟨(blk_cell h 0).trans rfl, (blk_cell h 1).trans rfl, (blk_cell h 2).trans rfl, (blk_cell h 3).trans rfl, (blk_cell h 4).trans rfl, (blk_cell h 5).trans rfl, (blk_cell h 6).trans rfl, (blk_cell h 7).trans rfl, (blk_cell h 8).trans rfl, (blk_cell h 9).trans rfl, (blk_cell h 10).trans rfl, (blk_cell h 11).trans rfl, (blk_cell h 12).trans rfl, (blk_cell h 13).trans rfl, blk_frozen h 0, blk_frozen h 1, blk_frozen h 2, blk_frozen h 3, blk_frozen h 4, blk_frozen h 5, blk_frozen h 6, blk_frozen h 7, blk_frozen h 8, blk_frozen h 9, blk_frozen h 10, blk_frozen h 11, blk_frozen h 12, blk_frozen h 13⟩
/-! ### words of zip3.py -/
theorem AA {p : Prop} (h : p) : Aside0 p := ⟨h⟩
theorem QS {Q : Prop} (q : Q := by first | rfl | (simp; done) | (congr 2; simp only [ByteArray.size_extract, ByteArray.size_append]; (try unfold wrap64); omega) | (simp only [ByteArray.size_extract, ByteArray.size_append, Nat.sub_zero]; done) | (congr 1; simp only [ByteArray.size_extract, ByteArray.size_append, Nat.sub_zero]; omega) | (simp [*]; done)) : Q := q
theorem LR {q : Prop} (h : q := by first | omega | exact Nat.le_refl _) : Aside0 q := ⟨h⟩
theorem DW {Q : Prop} (q : Q := by repeat (first | exact Drawn0.refl _ | apply Drawn0.step)) : Q := q
theorem RS {Q : Prop} (q : Q := by first | rfl | (simp; done) | (simp [*]; done)) : Q := q
theorem BS {w W0 W W' : World} (h : Aside0 (Below w.heap.size w W0)) (hb : Below W.heap.size W W') (q : Below w.heap.size w W0 → Below w.heap.size w W := by intro HB; repeat (first | (with_reducible first | exact HB | apply below_alloc | apply pw_below_drewN | apply below_drew1 | refine below_set ?_ (Aside0.out (by assumption))) | exact HB)) : Aside0 (Below w.heap.size w W') := ⟨below_step (q h.out) hb⟩
theorem BB {w0 w w1 : World} {g : Nat} {o : Obj} (h : Aside0 (w0.heap[g]? = some o)) (hb : Below w.heap.size w w1) (q : w0.heap[g]? = some o → w.heap[g]? = some o := by intro BK; (with_reducible repeat (first | refine blk_drewN ?_ _ | refine blk_drew ?_ | refine blk_alloc ?_ _)); exact BK) : Aside0 (w1.heap[g]? = some o) := ⟨blk_below (q h.out) hb⟩
theorem GS {w W0 W : World} {g : Nat} (hg : g = W.heap.size) (h : Aside0 (Below w.heap.size w W0)) (q : Below w.heap.size w W0 → Below w.heap.size w W := by intro HB; repeat (first | (with_reducible first | exact HB | apply below_alloc | apply pw_below_drewN | apply below_drew1 | refine below_set ?_ (Aside0.out (by assumption))) | exact HB)) : Aside0 (w.heap.size ≤ g) := ⟨by rw [hg]; exact below_size (q h.out)⟩
theorem NL {w0 w : World} {g h : Nat} {o : Obj} (hg : h = w.heap.size) (hB : Aside0 (w0.heap[g]? = some o)) (q : w0.heap[g]? = some o → w.heap[g]? = some o := by intro BK; (with_reducible repeat (first | refine blk_drewN ?_ _ | refine blk_drew ?_ | refine blk_alloc ?_ _)); exact BK) : Aside0 (g ≠ h) := ⟨by rw [hg]; exact Nat.ne_of_lt (blk_lt (q hB.out))⟩
theorem NG {w0 w : World} {g h : Nat} {o : Obj} (hg : h = w.heap.size) (hB : Aside0 (w0.heap[g]? = some o)) (q : w0.heap[g]? = some o → w.heap[g]? = some o := by intro BK; (with_reducible repeat (first | refine blk_drewN ?_ _ | refine blk_drew ?_ | refine blk_alloc ?_ _)); exact BK) : Aside0 (h ≠ g) := ⟨by rw [hg]; exact Nat.ne_of_gt (blk_lt (q hB.out))⟩
theorem HCs {Q : Prop} {w : World} {g : Nat} {cs : Array Value} {t : TypeId} {z : Nat × Nat} (h : Aside0 (w.heap[g]? = some (.cells cs t z))) (q : w.heap[g]? = some (.cells cs t z) → Q := by intro h; (repeat' apply And.intro) <;> exact (blk_cell h _).trans rfl) : Q := q h.out
theorem OB {α β : Type} {x : Option α} {f : α → Option β} {r : β} (h : x.bind f = some r) : ∃ a, Aside0 (x = some a) ∧ f a = some r := by
  obtain ⟨a, h1, h2⟩ := Option.bind_eq_some_iff.mp h
  exact ⟨a, ⟨h1⟩, h2⟩
theorem IT {c : Prop} [Decidable c] {α : Type} {x : Option α} {r : α} (h : (if c then x else none) = some r) : c ∧ x = some r := by
  by_cases hc : c
  · rw [if_pos hc] at h; exact ⟨hc, h⟩
  · rw [if_neg hc] at h; exact absurd h (by simp)
theorem IFN {α : Type} [Decidable (false = true)] {x y r : α} (h : (if false = true then x else y) = r) : y = r := by rwa [if_neg Bool.false_ne_true] at h
theorem BT {α : Type} [DecidableEq α] {a b : α} (h : a = b) : (a == b) = true := beq_iff_eq.mpr h
theorem BF {α : Type} [DecidableEq α] {a b : α} (h : ¬ a = b) : (a == b) = false := beq_eq_false_iff_ne.mpr h
theorem NT {α : Type} [DecidableEq α] {a b : α} (h : ¬ a = b) : (a != b) = true := bne_iff_ne.mpr h
theorem NF {α : Type} [DecidableEq α] {a b : α} (h : a = b) : (a != b) = false := bne_eq_false_iff_eq.mpr h
theorem gkx {P : Program} {ops : Array Oper} {Q : Exit → Act → World → Prop} {rest : List Oper} {o : Oper} {a : Act} {W : World} (f : FuncId) {az : Array Operand} {ts : Array TypeId} (_ho : o.op = .call { callee := .value (.func f), args := az, argTypes := ts }) (h : wpList P ops Q (o :: rest) a W) : wpList P ops Q (o :: rest) a W := h
theorem bx {P : Program} {ops : Array Oper} {Q : Exit → Act → World → Prop} {rest : List Oper} {o : Oper} {a : Act} {W : World} (N : Tmp) (t : TypeId) (cs : Array Value) (h : ∀ g, g = W.heap.size → ∀ w1, w1.heap[g]? = some (.cells cs t (0, 0)) → Below W.heap.size W w1 → wpList P ops Q rest (a.put o.dst (.pointer (some ⟨g, 0, none⟩))) w1) (hd : o.dst = some N := by rfl) (hg : o.guard = none := by rfl) (hr : (execOp a.eval o).run P W = .ok (.value (.pointer (some ⟨W.heap.size, 0, none⟩))) (W.alloc (.cells cs t (0, 0))) := by first | (go_simp; done) | (go_simp; rfl)) : wpList P ops Q (o :: rest) a W := box_event hg hd hr h
theorem gL {P : Program} {ops : Array Oper} {Q : Exit → Act → World → Prop} {rest : List Oper} {oi : Oper} {a : Act} {w : World} {f : FuncId} {az : Array Operand} {ts : Array TypeId} {args : Array Value} {v : Value} {Φ : World → Prop} {fn : Func} (N : Nat) (hf : P.funcs[f]? = some fn) (hop : oi.op = .call { callee := .value (.func f), args := az, argTypes := ts }) (hc : Calls P f args w fun e w' => e = .returned v ∧ Φ w') (h : ∀ w', Φ w' → wpList P ops Q rest (a.put (some N) v) w') (hd : oi.dst = some N := by rfl) (hg : oi.guard = none := by rfl) (hname : (fn.name == "runtime.NumGoroutine") = false := by kernel_rfl) (hb : fn.body.isSome = true := by rfl) (hargs : az.map a.eval = args := by (try simp only [List.map_toArray, List.map_cons, List.map_nil]); first | done | rfl | (simp only [List.length_drop, List.length_take]; rfl)) : wpList P ops Q (oi :: rest) a w := goesL_ (some N) hd hg hf hname hb args hop hargs (hc.mono fun e w' hh => ⟨v, hh.1, h w' hh.2⟩)
theorem gR {P : Program} {ops : Array Oper} {Q : Exit → Act → World → Prop} {oi : Oper} {N : Option Tmp} {a : Act} {w : World} {K : Act → World → Prop} {f : FuncId} {az : Array Operand} {ts : Array TypeId} {args : Array Value} {v : Value} {Φ : World → Prop} {fn : Func} (hf : P.funcs[f]? = some fn) (hN : oi.dst = N) (hop : oi.op = .call { callee := .value (.func f), args := az, argTypes := ts }) (hc : Calls P f args w fun e w' => e = .returned v ∧ Φ w') (h : ∀ w', Φ w' → K (a.put N v) w') (hname : (fn.name == "runtime.NumGoroutine") = false := by kernel_rfl) (hb : fn.body.isSome = true := by rfl) (hw : Region.wanted oi (yielded ops a.tmps) = true := by rfl) (hargs : az.map a.eval = args := by (try simp only [List.map_toArray, List.map_cons, List.map_nil]); first | done | rfl | (simp only [Int.toNat_natCast]; first | done | rfl) | (rw [Int.toNat_natCast, ByteArray.extract_zero_size]; rfl) | (simp only [List.length_drop, List.length_take]; rfl)) : if Region.wanted oi (yielded ops a.tmps) = true then Oper.wp P oi a w K Q else K (a.put N undef) w := goes_ hf hname hb args hw hN hop hargs (hc.mono fun e w' hh => ⟨v, hh.1, h w' hh.2⟩)
theorem nm {P : Program} {ops : Array Oper} {Q : Exit → Act → World → Prop} {md : Region.Mode} {S : World → Prop} {ds : List Nat} {fuel : Nat} {l : Array Bool} {a0 a' : Act} {v : Value} {w : World} (n : Nat) (h : wpAnyLast P md ops Q S ds fuel l a' w) (ha : a0.put (some n) v = a' := by simp only [Act.put, zpA, zpO, zpS, i64_w, i32_w]; rfl) : wpAnyLast P md ops Q S ds fuel l (a0.put (some n) v) w := by subst ha; exact h
theorem oN {P : Program} {ops : Array Oper} {Q : Exit → Act → World → Prop} {md : Region.Mode} {S : World → Prop} {ds : List Nat} {T : Bool × List (List Nat × List Nat)} {oi : Oper} {fuel : Nat} {l : Array Bool} {a : Act} {w : World} (i n : Nat) (l' : Array Bool) (hT : Aside0 (rtab md ops = T)) (h : ∀ K : Act → World → Prop, Shut (∀ a' w', S w' → (S w' → wpAnyLast P md ops Q S ds fuel l' a' w') → K a' w') → if Region.wanted oi (yielded ops a.tmps) = true then Oper.wp P oi a w K Q else K (a.put (some n) undef) w) (hi : ops[i]? = some oi := by rfl) (hN : oi.dst = some n := by rfl) (hc : (readyT T.2 l.toList == [i] && l.toList.set i true == l'.toList) = true := by kernel_rfl) (hd : i ∉ ds := by decide) : wpAnyLast P md ops Q S ds (fuel + 1) l a w := one_ (N := some n) l' hi hN (one_of hT.out hc) hd h
/-! ### more words of zip3.py -/
abbrev c14 (g : Nat) (x0 : Int) (x1 : Int) (x2 : Int) (x3 : Int) (x4 : Int) (x5 : Int) (x6 : Int) (x7 : Int) (x8 : Int) (x9 : Int) (x10 : Int) (x11 : Int) (x12 : Int) (x13 : Int) (w : World) : Prop := w.cell? ⟨g, 0, none⟩ = some (.int .i64 x0) ∧ w.cell? ⟨g, 1, none⟩ = some (.int .i64 x1) ∧ w.cell? ⟨g, 2, none⟩ = some (.int .i64 x2) ∧ w.cell? ⟨g, 3, none⟩ = some (.int .i64 x3) ∧ w.cell? ⟨g, 4, none⟩ = some (.int .u32 x4) ∧ w.cell? ⟨g, 5, none⟩ = some (.int .u32 x5) ∧ w.cell? ⟨g, 6, none⟩ = some (.int .i64 x6) ∧ w.cell? ⟨g, 7, none⟩ = some (.int .i64 x7) ∧ w.cell? ⟨g, 8, none⟩ = some (.int .i64 x8) ∧ w.cell? ⟨g, 9, none⟩ = some (.int .i64 x9) ∧ w.cell? ⟨g, 10, none⟩ = some (.int .u32 x10) ∧ w.cell? ⟨g, 11, none⟩ = some (.int .u32 x11) ∧ w.cell? ⟨g, 12, none⟩ = some (.int .i64 x12) ∧ w.cell? ⟨g, 13, none⟩ = some (.int .i64 x13)
abbrev c9 (g : Nat) (x0 : Int) (x1 : Int) (x2 : Int) (x3 : Int) (x4 : Int) (x5 : Int) (x6 : Int) (x7 : Int) (x8 : ByteArray) (w : World) : Prop := w.cell? ⟨g, 0, none⟩ = some (.int .i64 x0) ∧ w.cell? ⟨g, 1, none⟩ = some (.int .i64 x1) ∧ w.cell? ⟨g, 2, none⟩ = some (.int .i64 x2) ∧ w.cell? ⟨g, 3, none⟩ = some (.int .i64 x3) ∧ w.cell? ⟨g, 4, none⟩ = some (.int .i64 x4) ∧ w.cell? ⟨g, 5, none⟩ = some (.int .i64 x5) ∧ w.cell? ⟨g, 6, none⟩ = some (.int .u32 x6) ∧ w.cell? ⟨g, 7, none⟩ = some (.int .u32 x7) ∧ w.cell? ⟨g, 8, none⟩ = some (.string x8)
abbrev c11 (g : Nat) (x0 : Int) (x1 : Int) (x2 : Int) (x3 : Int) (x4 : Int) (x5 : Int) (x6 : Int) (x7 : ByteArray) (x8 : Bool) (x9 : Int) (x10 : Int) (w : World) : Prop := w.cell? ⟨g, 0, none⟩ = some (.int .u8 x0) ∧ w.cell? ⟨g, 1, none⟩ = some (.int .u32 x1) ∧ w.cell? ⟨g, 2, none⟩ = some (.int .u32 x2) ∧ w.cell? ⟨g, 3, none⟩ = some (.int .u16 x3) ∧ w.cell? ⟨g, 4, none⟩ = some (.int .u16 x4) ∧ w.cell? ⟨g, 5, none⟩ = some (.int .u8 x5) ∧ w.cell? ⟨g, 6, none⟩ = some (.int .u8 x6) ∧ w.cell? ⟨g, 7, none⟩ = some (.string x7) ∧ w.cell? ⟨g, 8, none⟩ = some (.bool x8) ∧ w.cell? ⟨g, 9, none⟩ = some (.int .u32 x9) ∧ w.cell? ⟨g, 10, none⟩ = some (.int .u32 x10)
abbrev c8 (g : Nat) (x0 : Int) (x1 : Int) (x2 : Int) (x3 : Int) (x4 : Int) (x5 : Int) (x6 : Int) (x7 : ByteArray) (w : World) : Prop := w.cell? ⟨g, 0, none⟩ = some (.int .i64 x0) ∧ w.cell? ⟨g, 1, none⟩ = some (.int .i64 x1) ∧ w.cell? ⟨g, 2, none⟩ = some (.int .u32 x2) ∧ w.cell? ⟨g, 3, none⟩ = some (.int .u32 x3) ∧ w.cell? ⟨g, 4, none⟩ = some (.int .i64 x4) ∧ w.cell? ⟨g, 5, none⟩ = some (.int .i64 x5) ∧ w.cell? ⟨g, 6, none⟩ = some (.int .i64 x6) ∧ w.cell? ⟨g, 7, none⟩ = some (.string x7)
theorem DA {p : Prop} [Decidable p] (h : decide p = true := by first | (with_reducible assumption) | assumption) : p := of_decide_eq_true h
theorem IU {c : Prop} [Decidable c] {α : Type} {x : Option α} {r : α} (h : (if c then x else none) = some r) : (c = True) ∧ decide c = true ∧ x = some r := ⟨eq_true (IT h).1, decide_eq_true (IT h).1, (IT h).2⟩
theorem HCt {Q : Prop} {w : World} {g g2 : Nat} {cs cs2 : Array Value} {t t2 : TypeId} {z z2 : Nat × Nat} (h : Aside0 (w.heap[g]? = some (.cells cs t z))) (h2 : Aside0 (w.heap[g2]? = some (.cells cs2 t2 z2))) (q : w.heap[g]? = some (.cells cs t z) → w.heap[g2]? = some (.cells cs2 t2 z2) → Q := by intro h h2; (repeat' apply And.intro) <;> first | exact (blk_cell h _).trans rfl | exact (blk_cell h2 _).trans rfl) : Q := q h.out h2.out
theorem tk {P : Program} {ops : Array Oper} {Q : Exit → Act → World → Prop} {md : Region.Mode} {S : World → Prop} {ds : List Nat} {oi : Oper} {v : Value} {fuel : Nat} {l : Array Bool} {a a' : Act} {w : World} (i n : Nat) (l' : Array Bool) (hS : S w) (h : wpAnyLast P md ops Q S ds fuel l' a' w) (hi : ops[i]? = some oi := by rfl) (hN : oi.dst = some n := by rfl) (hc : takeB md ops ds l l' i = true := by kernel_rfl) (hQ : ∀ c a w, Q (.panic c) (a.put oi.dst v) w → Q (.panic c) a w := by exact fun _ _ _ h => h) (hy : YieldsIf P ops S oi v a := by refine Or.inl ⟨by rfl, ?_⟩; rintro w' ⟨s0, s1⟩; go_simp; with_reducible rfl) (ha : a.put (some n) v = a' := by simp only [Act.put, zpA, zpO, zpS, i64_w, i32_w]; rfl) : wpAnyLast P md ops Q S ds (fuel + 1) l a w := take_ (i := i) (N := some n) l' hi hN hc hQ hy hS ha h
theorem tw {P : Program} {ops : Array Oper} {Q : Exit → Act → World → Prop} {md : Region.Mode} {S : World → Prop} {ds : List Nat} {oi : Oper} {v : Value} {fuel : Nat} {l : Array Bool} {a a' : Act} {w : World} {T : Bool × List (List Nat × List Nat)} {B : List Nat} (i n : Nat) (l' : Array Bool) (hT : Aside0 (rtab md ops = T)) (hB : Aside0 (waitsOk T.2 B = true)) (hS : S w) (h : wpAnyLast P md ops Q S ds fuel l' a' w) (hi : ops[i]? = some oi := by rfl) (hN : oi.dst = some n := by rfl) (hc : takeW T B ds l.toList l'.toList i = true := by kernel_rfl) (hQ : ∀ c a w, Q (.panic c) (a.put oi.dst v) w → Q (.panic c) a w := by exact fun _ _ _ h => h) (hy : YieldsIf P ops S oi v a := by refine Or.inl ⟨by rfl, ?_⟩; rintro w' ⟨s0, s1⟩; go_simp; with_reducible rfl) (ha : a.put (some n) v = a' := by simp only [Act.put, zpA, zpO, zpS, i64_w, i32_w]; rfl) : wpAnyLast P md ops Q S ds (fuel + 1) l a w := take_ (i := i) (N := some n) l' hi hN (take_ofW hT.out hB.out hc) hQ hy hS ha h
theorem put14 {w : World} {g : Nat} {t : TypeId} {c0 c1 c2 c3 c4 c5 c6 c7 c8 c9 c10 c11 c12 c13 v0 v1 v2 v3 v4 v5 v6 v7 v8 v9 v10 v11 v12 v13 : Value} (h : w.heap[g]? = some (.cells #[c0, c1, c2, c3, c4, c5, c6, c7, c8, c9, c10, c11, c12, c13] t (0, 0))) : ((((((((((((((w.setCell ⟨g, 0, none⟩ v0).setCell ⟨g, 1, none⟩ v1).setCell ⟨g, 2, none⟩ v2).setCell ⟨g, 3, none⟩ v3).setCell ⟨g, 4, none⟩ v4).setCell ⟨g, 5, none⟩ v5).setCell ⟨g, 6, none⟩ v6).setCell ⟨g, 7, none⟩ v7).setCell ⟨g, 8, none⟩ v8).setCell ⟨g, 9, none⟩ v9).setCell ⟨g, 10, none⟩ v10).setCell ⟨g, 11, none⟩ v11).setCell ⟨g, 12, none⟩ v12).setCell ⟨g, 13, none⟩ v13).heap[g]? = some (.cells #[v0, v1, v2, v3, v4, v5, v6, v7, v8, v9, v10, v11, v12, v13] t (0, 0)) :=
  (blk_put (cs' := #[v0, v1, v2, v3, v4, v5, v6, v7, v8, v9, v10, v11, v12, v13]) (blk_put (cs' := #[v0, v1, v2, v3, v4, v5, v6, v7, v8, v9, v10, v11, v12, c13]) (blk_put (cs' := #[v0, v1, v2, v3, v4, v5, v6, v7, v8, v9, v10, v11, c12, c13]) (blk_put (cs' := #[v0, v1, v2, v3, v4, v5, v6, v7, v8, v9, v10, c11, c12, c13]) (blk_put (cs' := #[v0, v1, v2, v3, v4, v5, v6, v7, v8, v9, c10, c11, c12, c13]) (blk_put (cs' := #[v0, v1, v2, v3, v4, v5, v6, v7, v8, c9, c10, c11, c12, c13]) (blk_put (cs' := #[v0, v1, v2, v3, v4, v5, v6, v7, c8, c9, c10, c11, c12, c13]) (blk_put (cs' := #[v0, v1, v2, v3, v4, v5, v6, c7, c8, c9, c10, c11, c12, c13]) (blk_put (cs' := #[v0, v1, v2, v3, v4, v5, c6, c7, c8, c9, c10, c11, c12, c13]) (blk_put (cs' := #[v0, v1, v2, v3, v4, c5, c6, c7, c8, c9, c10, c11, c12, c13]) (blk_put (cs' := #[v0, v1, v2, v3, c4, c5, c6, c7, c8, c9, c10, c11, c12, c13]) (blk_put (cs' := #[v0, v1, v2, c3, c4, c5, c6, c7, c8, c9, c10, c11, c12, c13]) (blk_put (cs' := #[v0, v1, c2, c3, c4, c5, c6, c7, c8, c9, c10, c11, c12, c13]) (blk_put (cs' := #[v0, c1, c2, c3, c4, c5, c6, c7, c8, c9, c10, c11, c12, c13]) h 0 _ rfl) 1 _ rfl) 2 _ rfl) 3 _ rfl) 4 _ rfl) 5 _ rfl) 6 _ rfl) 7 _ rfl) 8 _ rfl) 9 _ rfl) 10 _ rfl) 11 _ rfl) 12 _ rfl) 13 _ rfl)
theorem far14 {w : World} {g B : Nat} {o : Obj} {v0 v1 v2 v3 v4 v5 v6 v7 v8 v9 v10 v11 v12 v13 : Value} (h : w.heap[B]? = some o) (hne : B ≠ g) : ((((((((((((((w.setCell ⟨g, 0, none⟩ v0).setCell ⟨g, 1, none⟩ v1).setCell ⟨g, 2, none⟩ v2).setCell ⟨g, 3, none⟩ v3).setCell ⟨g, 4, none⟩ v4).setCell ⟨g, 5, none⟩ v5).setCell ⟨g, 6, none⟩ v6).setCell ⟨g, 7, none⟩ v7).setCell ⟨g, 8, none⟩ v8).setCell ⟨g, 9, none⟩ v9).setCell ⟨g, 10, none⟩ v10).setCell ⟨g, 11, none⟩ v11).setCell ⟨g, 12, none⟩ v12).setCell ⟨g, 13, none⟩ v13).heap[B]? = some o := by
  iterate 14 refine (Below.heap_setCell _ _ _ _ hne).trans ?_
  exact h
theorem bel14 {w0 w : World} {A g : Nat} {v0 v1 v2 v3 v4 v5 v6 v7 v8 v9 v10 v11 v12 v13 : Value} (h : Below A w0 w) (hA : A ≤ g) : Below A w0 ((((((((((((((w.setCell ⟨g, 0, none⟩ v0).setCell ⟨g, 1, none⟩ v1).setCell ⟨g, 2, none⟩ v2).setCell ⟨g, 3, none⟩ v3).setCell ⟨g, 4, none⟩ v4).setCell ⟨g, 5, none⟩ v5).setCell ⟨g, 6, none⟩ v6).setCell ⟨g, 7, none⟩ v7).setCell ⟨g, 8, none⟩ v8).setCell ⟨g, 9, none⟩ v9).setCell ⟨g, 10, none⟩ v10).setCell ⟨g, 11, none⟩ v11).setCell ⟨g, 12, none⟩ v12).setCell ⟨g, 13, none⟩ v13) := by
  iterate 14 refine Below.setCell ?_ (by exact hA) _
  exact h
theorem gen14 {Q : World → Prop} {W0 w : World} {g : Nat} {t : TypeId} {c0 c1 c2 c3 c4 c5 c6 c7 c8 c9 c10 c11 c12 c13 v0 v1 v2 v3 v4 v5 v6 v7 v8 v9 v10 v11 v12 v13 : Value} (h0 : Aside0 (W0.heap[g]? = some (.cells #[c0, c1, c2, c3, c4, c5, c6, c7, c8, c9, c10, c11, c12, c13] t (0, 0)))) (h : ∀ w', Aside0 (w'.heap[g]? = some (.cells #[v0, v1, v2, v3, v4, v5, v6, v7, v8, v9, v10, v11, v12, v13] t (0, 0))) → (∀ B o, B ≠ g → w.heap[B]? = some o → w'.heap[B]? = some o) → (∀ A w0, A ≤ g → Below A w0 w → Below A w0 w') → Q w') (q : W0.heap[g]? = some (.cells #[c0, c1, c2, c3, c4, c5, c6, c7, c8, c9, c10, c11, c12, c13] t (0, 0)) → w.heap[g]? = some (.cells #[c0, c1, c2, c3, c4, c5, c6, c7, c8, c9, c10, c11, c12, c13] t (0, 0)) := by intro BK; (with_reducible repeat (first | refine blk_drewN ?_ _ | refine blk_drew ?_ | refine blk_alloc ?_ _)); exact BK) : Q ((((((((((((((w.setCell ⟨g, 0, none⟩ v0).setCell ⟨g, 1, none⟩ v1).setCell ⟨g, 2, none⟩ v2).setCell ⟨g, 3, none⟩ v3).setCell ⟨g, 4, none⟩ v4).setCell ⟨g, 5, none⟩ v5).setCell ⟨g, 6, none⟩ v6).setCell ⟨g, 7, none⟩ v7).setCell ⟨g, 8, none⟩ v8).setCell ⟨g, 9, none⟩ v9).setCell ⟨g, 10, none⟩ v10).setCell ⟨g, 11, none⟩ v11).setCell ⟨g, 12, none⟩ v12).setCell ⟨g, 13, none⟩ v13) := h _ ⟨put14 (q h0.out)⟩ (fun _ _ a b => far14 b a) (fun _ _ a b => bel14 b a)
theorem ex14 (w : World) (p0 p1 p2 p3 p4 p5 p6 p7 p8 p9 p10 p11 p12 p13 : Int) {W0 : World} {g : Nat} {t : TypeId} {c0 c1 c2 c3 c4 c5 c6 c7 c8 c9 c10 c11 c12 c13 : Value} (h0 : Aside0 (W0.heap[g]? = some (.cells #[c0, c1, c2, c3, c4, c5, c6, c7, c8, c9, c10, c11, c12, c13] t (0, 0)))) (q : W0.heap[g]? = some (.cells #[c0, c1, c2, c3, c4, c5, c6, c7, c8, c9, c10, c11, c12, c13] t (0, 0)) → w.heap[g]? = some (.cells #[c0, c1, c2, c3, c4, c5, c6, c7, c8, c9, c10, c11, c12, c13] t (0, 0)) := by intro BK; (with_reducible repeat (first | refine blk_drewN ?_ _ | refine blk_drew ?_ | refine blk_alloc ?_ _)); exact BK) : ∃ w', ((((((((((((((w.setCell ⟨g, 0, none⟩ (.int .i64 p0)).setCell ⟨g, 1, none⟩ (.int .i64 p1)).setCell ⟨g, 2, none⟩ (.int .i64 p2)).setCell ⟨g, 3, none⟩ (.int .i64 p3)).setCell ⟨g, 4, none⟩ (.int .u32 p4)).setCell ⟨g, 5, none⟩ (.int .u32 p5)).setCell ⟨g, 6, none⟩ (.int .i64 p6)).setCell ⟨g, 7, none⟩ (.int .i64 p7)).setCell ⟨g, 8, none⟩ (.int .i64 p8)).setCell ⟨g, 9, none⟩ (.int .i64 p9)).setCell ⟨g, 10, none⟩ (.int .u32 p10)).setCell ⟨g, 11, none⟩ (.int .u32 p11)).setCell ⟨g, 12, none⟩ (.int .i64 p12)).setCell ⟨g, 13, none⟩ (.int .i64 p13)) = w' ∧ Aside0 (w'.heap[g]? = some (.cells (rr14 p0 p1 p2 p3 p4 p5 p6 p7 p8 p9 p10 p11 p12 p13) t (0, 0))) ∧ (∀ B o, B ≠ g → w.heap[B]? = some o → w'.heap[B]? = some o) ∧ (∀ A w0, A ≤ g → Below A w0 w → Below A w0 w') := ⟨_, rfl, ⟨put14 (q h0.out)⟩, fun _ _ a b => far14 b a, fun _ _ a b => bel14 b a⟩
theorem FF {w0 w w' : World} {g B : Nat} {o : Obj} (hf : ∀ B o, B ≠ g → w.heap[B]? = some o → w'.heap[B]? = some o) (hne : Aside0 (B ≠ g)) (h : Aside0 (w0.heap[B]? = some o)) (q : w0.heap[B]? = some o → w.heap[B]? = some o := by intro BK; (with_reducible repeat (first | refine blk_drewN ?_ _ | refine blk_drew ?_ | refine blk_alloc ?_ _)); exact BK) : Aside0 (w'.heap[B]? = some o) := ⟨hf _ _ hne.out (q h.out)⟩
theorem FB {w W0 W W' : World} {g : Nat} (hb : ∀ A w0, A ≤ g → Below A w0 W → Below A w0 W') (hg : Aside0 (w.heap.size ≤ g)) (h : Aside0 (Below w.heap.size w W0)) (q : Below w.heap.size w W0 → Below w.heap.size w W := by intro HB; repeat (first | (with_reducible first | exact HB | apply below_alloc | apply pw_below_drewN | apply below_drew1 | refine below_set ?_ (Aside0.out (by assumption))) | exact HB)) : Aside0 (Below w.heap.size w W') := ⟨hb _ _ hg.out (q h.out)⟩
end Go.Proofs.YtfnjohklmpiboaaGreat.Pr
