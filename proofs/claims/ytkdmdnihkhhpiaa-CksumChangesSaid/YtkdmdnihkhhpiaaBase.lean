-- trimmed by trims.py
/- Small laws of the walk and of numbers that the contracts share; no program in sight. -/
import Derived.Test.YtkdmdnihkhhpiaaSpec
import Derived.Below
import Derived.Deep.Draws
import Derived.Deep.AppendLies
import Derived.Maps.AppendAt
import Derived.OwnWalk
import Derived.Laws.BytesArg
import Derived.Laws.MakeOwn
import Derived.Laws.OwnMore
import Derived.Deep.OwnRows
import Derived.Tactics
import Derived.Lib.ConvBytes
import Derived.Laws.Slices
import Derived.WalkKit
import Derived.KernelRfl
import Derived.RowKit3
import Derived.Deep.LoopGhost
import Derived.Deep.QuietTactic
import Derived.BigQuiet
import Derived.WideLaws
import Derived.Deep.DeepCutAuto
import Derived.Deep.CutBlock
import Derived.Deep.RegionHeld3
import Derived.Laws.Rows
import Derived.Lib.AppendStr
import Derived.ArgAppend
import Derived.Laws.IdiomCopy
import Derived.OrdersHeld
import Derived.Laws.BitsLemmas
import Derived.RowKit
import Derived.Maps.Own
import Derived.Maps.OwnSet
import Derived.Maps.OwnOps
import Derived.Maps.Views
import Derived.Lib.Hide
import Derived.Outline
import Derived.RangeFuncNested
import Derived.RangeFuncBound
import Derived.RangeFuncCalls
import Derived.RangeFuncLeaves
import Derived.Shelf.Abstract
import Derived.Shelf.RegionOpen
import Derived.OwnWalkIn
import Derived.TacticsInMore
import Derived.LoopNIn
import Derived.LoopIn
import Derived.OneCell
import Derived.Lib.UnsafeStr
import Derived.Test.YtkdmdnihkhhpiaaWWords
import Derived.Test.YtkdmdnihkhhpiaaWLast
import Derived.Test.YtkdmdnihkhhpiaaWTab
import Derived.Test.YtkdmdnihkhhpiaaWFour
import Derived.Test.YtkdmdnihkhhpiaaWQPut
import Derived.Test.YtkdmdnihkhhpiaaWApart
import Derived.Test.YtkdmdnihkhhpiaaWArr
import Derived.Test.YtkdmdnihkhhpiaaWZeros
import Derived.Test.YtkdmdnihkhhpiaaWFoot
import Derived.Test.YtkdmdnihkhhpiaaWKept
import Derived.Test.YtkdmdnihkhhpiaaWShare
import Derived.Test.YtkdmdnihkhhpiaaWN
import Derived.Test.YtkdmdnihkhhpiaaWFootNe
import Derived.Test.YtkdmdnihkhhpiaaWAt
import Derived.Test.YtkdmdnihkhhpiaaWEqStruct
import Derived.Test.YtkdmdnihkhhpiaaWRepsOne
import Derived.Test.YtkdmdnihkhhpiaaWInv
import Derived.Test.YtkdmdnihkhhpiaaWInvWords
import Derived.Test.YtkdmdnihkhhpiaaWGuard
import Derived.Test.YtkdmdnihkhhpiaaWNEv
import Derived.Test.YtkdmdnihkhhpiaaWMore
set_option linter.unusedVariables false
set_option linter.unusedSimpArgs false
namespace Go.Proofs.Ytkdmdnihkhhpiaa.Pr
open Go.RowKit Go.Proofs.YtkdmdnihkhhpiaaW.PrintWords Go.Proofs.YtkdmdnihkhhpiaaW.PrintLast Go.Proofs.YtkdmdnihkhhpiaaW.PrintMore
open Go.Proofs.Ytkdmdnihkhhpiaa.Sp
open Go.Maps
/-- What lies at block b stays as it is. -/
def KeepsAt (b : Nat) (o : Obj) (W W' : World) : Prop := W.heap[b]? = some o → W'.heap[b]? = some o
theorem keepsAt_t {b : Nat} {o : Obj} {A B C : World} (h : KeepsAt b o A B) (k : KeepsAt b o B C) : KeepsAt b o A C := fun e => k (h e)
theorem keepsAt_b {b : Nat} {ob : Obj} (hob : ob.isCells = true) {n : Nat} (W : World) (l : Nat) (o o' : Obj) (_ : n ≤ l) (h : W.heap[l]? = some o) (ho : o.isCells = false) (_ : o.isWalk = false) : KeepsAt b ob W (W.putObj l o') := fun e => by
  have hne : b ≠ l := fun hh => by subst hh; rw [h] at e; injection e with e; subst e; rw [hob] at ho; cases ho
  exact (World.putObj_heap_other (by omega)).trans e
theorem keepsAt_set {b : Nat} {ob : Obj} {W : World} {p : Addr} (u : Value) (h : b ≠ p.block) : KeepsAt b ob W (W.setCell p u) := fun e => (Below.heap_setCell _ _ _ _ h).trans e
theorem str_box {W : World} {b : Nat} {s : ByteArray} {t : TypeId} (h : W.heap[b]? = some (.cells #[.string s] t (0, 0))) : W.cell? ⟨b, 0, none⟩ = some (.string s) := (cell_of_row W b 0 #[.string s] t (0, 0) h).trans rfl
theorem cell_of_box_l {W : World} {B : Nat} {v : Value} {t : TypeId} (h : W.heap[B]? = some (.cells #[v] t (0, 0))) : W.cell? ⟨B, 0, none⟩ = some v ∧ W.frozen? ⟨B, 0, none⟩ = false := by
  constructor <;> simp [World.cell?, World.frozen?, h]
theorem cell_new_l (W : World) (v : Value) (t : TypeId) : (W.alloc (.cells #[v] t)).cell? ⟨W.heap.size, 0, none⟩ = some v ∧ (W.alloc (.cells #[v] t)).frozen? ⟨W.heap.size, 0, none⟩ = false :=
  cell_of_box_l (World.alloc_heap_new W _)
theorem cell_alloc_l {W : World} {a : Addr} {v : Value} (o : Obj) (h : W.cell? a = some v) : (W.alloc o).cell? a = some v := cell_kept h (World.grownBy_alloc W o none) (fun r e => by cases e)
theorem frozen_alloc_l {W : World} {a : Addr} {v : Value} (o : Obj) (h : W.cell? a = some v) (hf : W.frozen? a = false) : (W.alloc o).frozen? a = false := (frozen_kept h (World.grownBy_alloc W o none) (fun r e => by cases e)).trans hf
def big : Nat := 281474976710656
theorem wrap_id {n : Int} (h0 : -9223372036854775808 ≤ n) (h1 : n ≤ 9223372036854775807) : wrap64 n = n := by unfold wrap64; omega
theorem bits_byte {x y : Int} (h0 : 0 ≤ x) (h1 : x < 9007199254740992) (hy0 : 0 ≤ y) (hy : y < 256) : Go.bits .or .i64 (x * 256) y = x * 256 + y :=
  bits_join .i64 62 (by decide) (fun n a b => by rw [IntKind.wrap_i64]; omega) 8 (x * 256) y (by omega) (by omega) (by omega) hy0 (by omega) (by omega)
theorem bt_bl (s : ByteArray) (i : Int) (h : i.toNat < s.size) : bt s i = (((bl s)[i.toNat]'(by simpa using h)).toNat : Int) := by
  unfold bt; rw [dif_pos h]; rfl
theorem wrap_u64 {n : Int} (h0 : 0 ≤ n) (h1 : n ≤ 18446744073709551615) : IntKind.u64.wrap n = n := IntWalk.u64_in n ⟨h0, h1⟩
theorem wrap_u16 {n : Int} (h0 : 0 ≤ n) (h1 : n ≤ 65535) : IntKind.u16.wrap n = n := IntWalk.u16_in n ⟨h0, h1⟩
theorem and_low {n : Int} (h0 : 0 ≤ n) (h1 : n ≤ 18446744073709551615) : Go.bits .and .u64 n 65535 = n % 65536 :=
  bits_mask .u64 64 (by decide) (fun n a b => wrap_u64 a (by omega)) 16 (by decide) n h0 (by omega)
theorem unary_xor_u16 (n : Int) : Op.unary .xor (.int .u16 n) = Op.intBits .xor .u16 65535 n := rfl
attribute [go_sem high] unary_xor_u16
/-! ### '[]byte(s)': the new row is as a row of the call's own, but for the mark behind it -/
def numsOf (s : ByteArray) : List Int := s.data.toList.map fun b => (b.toNat : Int)
theorem numsOf_length (s : ByteArray) : (numsOf s).length = s.size := by simp [numsOf]
theorem nums_set' (k : IntKind) (xs : List Int) (i : Nat) (x : Int) : nums k (xs.set i x) = (nums k xs).set i (.int k x) := by simp [nums, List.map_set]
namespace Kb
def Q (_ : Kd Int) (e : Nat) (w : World) (base : Nat) (ok : Nat → Prop) (v : Value) (xs : List Int) : Prop :=
  (∀ k, v.ownBlock = some k → ok k) ∧ ∃ g cap cur, v = .slice (some ⟨g, 0, none⟩) xs.length cap ∧ base ≤ g ∧ w.heap[g]? = some (.cells cur e (cap, cap + 1)) ∧ xs.length ≤ cap ∧ cap ≤ maxLen ∧ cur.size = cap ∧ cur.toList.take xs.length = nums .u8 xs
section
variable {d : Kd Int} {e : Nat} {w w1 W : World} {base : Nat} {ok ok' : Nat → Prop} {v : Value} {xs : List Int}
theorem Q_mono (h : Q d e w base ok v xs) (hok : ∀ k, ok k → ok' k) : Q d e w base ok' v xs := ⟨fun k hk => hok k (h.1 k hk), h.2⟩
theorem Q_lt (h : Q d e w base ok v xs) : ∀ k, v.ownBlock = some k → k < w.heap.size := by
  obtain ⟨_, g, cap, cur, rfl, _, hh, _⟩ := h
  intro k hk
  have : g = k := by simpa [Value.ownBlock] using hk
  subst this
  exact (Array.getElem?_eq_some_iff.1 hh).1
theorem Q_base (h : Q d e w base ok v xs) : ∀ k, v.ownBlock = some k → base ≤ k := by
  obtain ⟨_, g, cap, cur, rfl, hb, hh, _⟩ := h
  intro k hk
  have : g = k := by simpa [Value.ownBlock] using hk
  subst this
  exact hb
theorem Q_bound (h : Q d e w base ok v xs) : Q d e w base (fun k => ok k ∧ base ≤ k ∧ k < w.heap.size ∧ True) v xs := ⟨fun k hk => ⟨h.1 k hk, Q_base h k hk, Q_lt h k hk, trivial⟩, h.2⟩
theorem Q_move (h : Q d e w base ok v xs) (hm : ∀ k, ok k → w1.heap[k]? = w.heap[k]?) : Q d e w1 base ok v xs := by
  obtain ⟨h0, g, cap, cur, rfl, hb, hh, r⟩ := h
  exact ⟨h0, g, cap, cur, rfl, hb, (hm g (h0 g rfl)).trans hh, r⟩
theorem Q_lower {base' : Nat} (h : Q d e w base ok v xs) (hb : base' ≤ base) : Q d e w base' ok v xs := by
  obtain ⟨h0, g, cap, cur, hv, hg, r⟩ := h
  exact ⟨h0, g, cap, cur, hv, Nat.le_trans hb hg, r⟩
theorem Q_step (h : Q d e w base ok v xs) (hm : ∀ k, ok k → k < w.heap.size → w1.heap[k]? = w.heap[k]?) : Q d e w1 base ok v xs :=
  Q_mono (Q_move (Q_bound h) (fun k hk => hm k hk.1 hk.2.2.1)) (fun _ hk => hk.1)
theorem Q_below (h : Q d e w base ok v xs) (hb : Below w.heap.size w w1) : Q d e w1 base ok v xs := Q_step h (fun k _ hk => hb.block k hk)
theorem Q_alloc (h : Q d e w base ok v xs) (o : Obj) : Q d e (w.alloc o) base ok v xs := Q_below h (below_alloc (Below.refl _ _) o)
theorem Q_drew (h : Q d e w base ok v xs) : Q d e w.drew base ok v xs := Q_below h (below_drew (Below.refl _ _))
theorem Q_drewN (h : Q d e w base ok v xs) (m : Nat) : Q d e (w.drewN m) base ok v xs := Q_below h (pw_below_drewN (Below.refl _ _) m)
theorem Q_slice (h : Q d e w base ok v xs) : ∃ A c, v = .slice A xs.length c ∧ xs.length ≤ c := by
  obtain ⟨_, g, cap, cur, rfl, _, _, hl, _⟩ := h
  exact ⟨_, cap, rfl, hl⟩
theorem Q_form (h : Q d e w base ok v xs) (_ : 0 < xs.length) : ∃ g cap, v = .slice (some ⟨g, 0, none⟩) xs.length cap ∧ base ≤ g ∧ g < w.heap.size ∧ ∃ cells, w.heap[g]? = some (.cells cells e (cap, cap + 1)) := by
  obtain ⟨_, g, cap, cur, rfl, hb, hh, _⟩ := h
  exact ⟨g, cap, rfl, hb, (Array.getElem?_eq_some_iff.1 hh).1, cur, hh⟩
/-- an element's cell, and that it may be written -/
theorem Q_cell {g n cap : Nat} (z : Int) (h : Q d e W base ok (.slice (some ⟨g, 0, none⟩) n cap) xs) (i : Int) (h0 : 0 ≤ i) (hi : i < n) :
    W.cell? ⟨g, i.toNat, none⟩ = some (.int .u8 (rdOf z xs i)) ∧ W.frozen? ⟨g, i.toNat, none⟩ = false := by
  obtain ⟨_, g', cap', cur, hv, hb, hh, hl, hm, hs, ht⟩ := h
  injection hv with h1 h2 h3
  injection h1 with h1
  injection h1 with h1 h4
  subst h1; subst h2; subst h3
  have hlt : i.toNat < xs.length := by omega
  have hc : cur[i.toNat]? = some (.int .u8 (rdOf z xs i)) := by
    have h5 : (cur.toList.take xs.length)[i.toNat]? = (nums .u8 xs)[i.toNat]? := by rw [ht]
    rw [List.getElem?_take, if_pos hlt, Array.getElem?_toList] at h5
    rw [h5]
    simp [nums, rdOf, List.getElem?_eq_getElem hlt, List.getD_eq_getElem?_getD]
  constructor
  · simp only [World.cell?, hh]; exact hc
  · simp only [World.frozen?, hh]; simp; omega
theorem Q_putg {g n cap : Nat} (h : Q d e W base ok (.slice (some ⟨g, 0, none⟩) n cap) xs) (i : Int) (h0 : 0 ≤ i) (hi : i < n) (x : Int) :
    Q d e (W.setCell ⟨g, i.toNat, none⟩ (.int .u8 x)) base ok (.slice (some ⟨g, 0, none⟩) n cap) (xs.set i.toNat x) ∧ True := by
  obtain ⟨hk, g', cap', cur, hv, hb, hh, hl, hm, hs, ht⟩ := h
  injection hv with h1 h2 h3
  injection h1 with h1
  injection h1 with h1 h4
  subst h1; subst h2; subst h3
  refine ⟨⟨hk, g, cap, cur.setIfInBounds i.toNat (.int .u8 x), by rw [List.length_set], hb, ?_, by rw [List.length_set]; exact hl, hm, by simpa using hs, ?_⟩, trivial⟩
  · simp [World.setCell, Array.getElem?_modify, hh]
  · rw [List.length_set]
    rw [Array.toList_setIfInBounds, nums_set', ← ht]
    apply List.ext_getElem?
    intro j
    simp only [List.getElem?_take, List.getElem?_set, List.length_take, Array.length_toList]
    by_cases hj : j < xs.length
    · rw [if_pos hj, if_pos hj]
      by_cases hij : i.toNat = j
      · rw [if_pos hij, if_pos hij, if_pos (by omega), if_pos (by omega)]
      · rw [if_neg hij, if_neg hij]
    · rw [if_neg hj, if_neg hj]
      by_cases hij : i.toNat = j
      · omega
      · rw [if_neg hij]
theorem Q_reads' {A : Option Addr} {n c : Nat} (h : Q (Kd.int .u8) e w base ok (.slice A n c) xs) : n = xs.length ∧ n ≤ c ∧ (Kd.int .u8).C w A xs.length xs := by
  have h' := h
  obtain ⟨_, g, cap, cur, hv, hb, hh, hl, hm, hs, ht⟩ := h'
  injection hv with h1 h2 h3
  subst h1; subst h2; subst h3
  refine ⟨rfl, hl, rfl, Nat.le_trans hl hm, fun hp => ⟨_, rfl, fun j p hj => ⟨[.int .u8 p], rfl, rfl, fun i u hu => ?_⟩⟩⟩
  have hj' := (List.getElem?_eq_some_iff.1 hj).1
  have hq := (Q_cell 0 h (j : Int) (by omega) (by omega)).1
  match i, hu with
  | 0, hu =>
    simp only [List.getElem?_cons_zero, Option.some.injEq] at hu
    subst hu
    have e1 : rdOf 0 xs (j : Int) = p := by simp [rdOf, List.getD_eq_getElem?_getD, hj]
    rw [e1] at hq
    show w.cell? ((⟨g, 0, none⟩ : Addr).add (j * 1 + 0)) = _
    have ha : (⟨g, 0, none⟩ : Addr).add (j * 1 + 0) = ⟨g, ((j : Int)).toNat, none⟩ := by unfold Addr.add; split <;> simp_all
    rw [ha]; exact hq
theorem Q_string {P : Program} {src dst e' : TypeId} (hs : P.underlying src = some (.slice e')) (he : P.underlying e' = some (.int .u8)) (hd : P.underlying dst = some .string)
    (h : Q d e w base ok v xs) : (convert src dst v).run P w = .ok (.string (strOfNums xs)) w := by
  have h' := h
  obtain ⟨_, g, cap, cur, rfl, hb, hh, hl, hm, hsz, ht⟩ := h'
  refine run_convert_bytes_arg w src e' hs he g 0 xs.length cap xs rfl (fun i hi => ?_) dst hd
  have hq := (Q_cell 0 h (i : Int) (by omega) (by omega)).1
  have e1 : rdOf 0 xs (i : Int) = xs.getD i 0 := by simp [rdOf]
  rw [e1] at hq
  simpa using hq
section
variable {P : Program} {ops : Array Oper} {rest : List Oper} {o : Oper} {a : Act} {Q' : Exit → Act → World → Prop}
theorem Q_conv (d : Kd Int) {W : World} (e : Nat) (hgd : o.guard = none) {N : Tmp} (_hd : o.dst = some N) (src t : TypeId) (x : Operand) (ho : o.op = .convert src t x) (s : ByteArray) (hx : a.eval x = .string s)
    {u : TypeDesc} (hs : P.underlying src = some u) (ht : P.underlying t = some (.slice e)) (he : P.underlying e = some (.int .u8)) {ok : Nat → Prop} (hfresh : ok W.heap.size) (hl : s.size ≤ 281474976710656)
    (h : ∀ v1 w1, Q d e w1 W.heap.size ok v1 (numsOf s) → Below W.heap.size W w1 → True → (∃ b, v1.ownBlock = some b ∧ W.heap.size ≤ b) → wpList P ops Q' rest (a.put o.dst v1) w1) : wpList P ops Q' (o :: rest) a W := by
  have hg := grownCap_ge W s.size 0 e
  have hz : (Lib.bytesCells W e s).size = grownCap W s.size 0 e := by
    have : s.data.size = s.size := rfl
    simp [Lib.bytesCells]; omega
  refine Kd.event_run hgd (v := .slice (some ⟨W.heap.size, 0, none⟩) s.size (grownCap W s.size 0 e)) (w1 := Lib.bytesWorld W e s) ?_ (h _ _ ⟨fun k hk => ?_, W.heap.size, grownCap W s.size 0 e, Lib.bytesCells W e s, by rw [numsOf_length], Nat.le_refl _, ?_, by rw [numsOf_length]; exact hg, grownCap_le_maxLen W _ _ e (by unfold maxLen; omega), hz, ?_⟩ ?_ trivial ⟨W.heap.size, by simp [Value.ownBlock], Nat.le_refl _⟩)
  · have hr := Lib.run_convert_string_bytes (P := P) W src t e s hs ht he
    simp [execOp, ho, hx, hr]
  · have : W.heap.size = k := by simpa [Value.ownBlock] using hk
    subst this
    exact hfresh
  · rw [Lib.bytesWorld_at_new, hz]
  · rw [numsOf_length]
    have h1 : s.data.toList.length = s.size := by simp
    simp only [Lib.bytesCells, Array.toList_append, Array.toList_map]
    rw [List.take_left' (by rw [List.length_map]; exact h1)]
    simp [nums, numsOf]
  · unfold Lib.bytesWorld
    exact Lib.below_freeze (below_alloc (below_drew (Below.refl _ _)) _) (Nat.le_refl _) _
end
end
end Kb
/-! Short words for what the printed walks say again and again (tools/zip2.py). -/
theorem BW {P Q : Prop} (h : Aside0 P) (q : P → Q := by intro HB; repeat (first | (with_reducible first | exact HB | apply below_alloc | apply pw_below_drewN | apply below_drew1 | refine below_set ?_ (Aside0.out (by assumption))) | exact HB)) : Q := q h.out
theorem RT {Q : Prop} (q : Q := by first | rfl | (simp [errW_none, errW_some] <;> rfl) | (simp [*, errW_none, errW_some] <;> rfl)) : Q := q
theorem AG {Q : Prop} (q : Q := by (try simp only [List.map_toArray, List.map_cons, List.map_nil]); first | done | rfl | (simp only [List.length_drop, List.length_take]; rfl)) : Q := q
theorem DD {p : Prop} (h : p := by first | exact ⟨rfl, _, World.drewN_drewN _ _ _⟩ | exact ⟨rfl, _, Eq.trans (World.drewN_drewN _ _ _) (congrArg (World.drewN _) (Nat.add_assoc _ _ _))⟩) : p := h
end Go.Proofs.Ytkdmdnihkhhpiaa.Pr
