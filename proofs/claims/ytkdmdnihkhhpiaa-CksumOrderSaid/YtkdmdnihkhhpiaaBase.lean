-- trimmed by trims.py
/- Small laws of the walk and of numbers that the contracts share; no program in sight. -/
import Derived.Test.YtkdmdnihkhhpiaaSpec
import Derived.Below
import Derived.Deep.Draws
import Derived.Deep.AppendLies
import Derived.Maps.AppendAt
import Derived.OwnWalk
import Derived.Laws.BytesArg
import Derived.Laws.MakeOwn
import Derived.Laws.OwnMore
import Derived.Deep.OwnRows
import Derived.Tactics
import Derived.Lib.ConvBytes
import Derived.Laws.Slices
import Derived.WalkKit
import Derived.KernelRfl
import Derived.RowKit3
import Derived.Deep.LoopGhost
import Derived.Deep.QuietTactic
import Derived.BigQuiet
import Derived.WideLaws
import Derived.Deep.DeepCutAuto
import Derived.Deep.CutBlock
import Derived.Deep.RegionHeld3
import Derived.Laws.Rows
import Derived.Lib.AppendStr
import Derived.ArgAppend
import Derived.Laws.IdiomCopy
import Derived.OrdersHeld
import Derived.Laws.BitsLemmas
import Derived.RowKit
import Derived.Maps.Own
import Derived.Maps.OwnSet
import Derived.Maps.OwnOps
import Derived.Maps.Views
import Derived.Lib.Hide
import Derived.Outline
import Derived.RangeFuncNested
import Derived.RangeFuncBound
import Derived.RangeFuncCalls
import Derived.RangeFuncLeaves
import Derived.Shelf.Abstract
import Derived.Shelf.RegionOpen
import Derived.OwnWalkIn
import Derived.TacticsInMore
import Derived.LoopNIn
import Derived.LoopIn
import Derived.OneCell
import Derived.Lib.UnsafeStr
import Derived.Test.YtkdmdnihkhhpiaaWWords
import Derived.Test.YtkdmdnihkhhpiaaWLast
import Derived.Test.YtkdmdnihkhhpiaaWTab
import Derived.Test.YtkdmdnihkhhpiaaWFour
import Derived.Test.YtkdmdnihkhhpiaaWQPut
import Derived.Test.YtkdmdnihkhhpiaaWApart
import Derived.Test.YtkdmdnihkhhpiaaWArr
import Derived.Test.YtkdmdnihkhhpiaaWZeros
import Derived.Test.YtkdmdnihkhhpiaaWFoot
import Derived.Test.YtkdmdnihkhhpiaaWKept
import Derived.Test.YtkdmdnihkhhpiaaWShare
import Derived.Test.YtkdmdnihkhhpiaaWN
import Derived.Test.YtkdmdnihkhhpiaaWFootNe
import Derived.Test.YtkdmdnihkhhpiaaWAt
import Derived.Test.YtkdmdnihkhhpiaaWEqStruct
import Derived.Test.YtkdmdnihkhhpiaaWRepsOne
import Derived.Test.YtkdmdnihkhhpiaaWInv
import Derived.Test.YtkdmdnihkhhpiaaWInvWords
import Derived.Test.YtkdmdnihkhhpiaaWGuard
import Derived.Test.YtkdmdnihkhhpiaaWNEv
import Derived.Test.YtkdmdnihkhhpiaaWMore
set_option linter.unusedVariables false
set_option linter.unusedSimpArgs false
namespace Go.Proofs.Ytkdmdnihkhhpiaa.Pr
open Go.RowKit Go.Proofs.YtkdmdnihkhhpiaaW.PrintWords Go.Proofs.YtkdmdnihkhhpiaaW.PrintLast Go.Proofs.YtkdmdnihkhhpiaaW.PrintMore
open Go.Proofs.Ytkdmdnihkhhpiaa.Sp
open Go.Maps
/-- The bits of k, n of them. -/
def bm (n k : Nat) : Array Bool := ((List.range n).map k.testBit).toArray
/-- What lies at block b stays as it is. -/
def KeepsAt (b : Nat) (o : Obj) (W W' : World) : Prop := W.heap[b]? = some o → W'.heap[b]? = some o
theorem keepsAt_t {b : Nat} {o : Obj} {A B C : World} (h : KeepsAt b o A B) (k : KeepsAt b o B C) : KeepsAt b o A C := fun e => k (h e)
theorem keepsAt_b {b : Nat} {ob : Obj} (hob : ob.isCells = true) {n : Nat} (W : World) (l : Nat) (o o' : Obj) (_ : n ≤ l) (h : W.heap[l]? = some o) (ho : o.isCells = false) (_ : o.isWalk = false) : KeepsAt b ob W (W.putObj l o') := fun e => by
  have hne : b ≠ l := fun hh => by subst hh; rw [h] at e; injection e with e; subst e; rw [hob] at ho; cases ho
  exact (World.putObj_heap_other (by omega)).trans e
theorem keepsAt_set {b : Nat} {ob : Obj} {W : World} {p : Addr} (u : Value) (h : b ≠ p.block) : KeepsAt b ob W (W.setCell p u) := fun e => (Below.heap_setCell _ _ _ _ h).trans e
theorem str_box {W : World} {b : Nat} {s : ByteArray} {t : TypeId} (h : W.heap[b]? = some (.cells #[.string s] t (0, 0))) : W.cell? ⟨b, 0, none⟩ = some (.string s) := (cell_of_row W b 0 #[.string s] t (0, 0) h).trans rfl
theorem cell_of_box_l {W : World} {B : Nat} {v : Value} {t : TypeId} (h : W.heap[B]? = some (.cells #[v] t (0, 0))) : W.cell? ⟨B, 0, none⟩ = some v ∧ W.frozen? ⟨B, 0, none⟩ = false := by
  constructor <;> simp [World.cell?, World.frozen?, h]
theorem cell_new_l (W : World) (v : Value) (t : TypeId) : (W.alloc (.cells #[v] t)).cell? ⟨W.heap.size, 0, none⟩ = some v ∧ (W.alloc (.cells #[v] t)).frozen? ⟨W.heap.size, 0, none⟩ = false :=
  cell_of_box_l (World.alloc_heap_new W _)
theorem cell_alloc_l {W : World} {a : Addr} {v : Value} (o : Obj) (h : W.cell? a = some v) : (W.alloc o).cell? a = some v := cell_kept h (World.grownBy_alloc W o none) (fun r e => by cases e)
theorem frozen_alloc_l {W : World} {a : Addr} {v : Value} (o : Obj) (h : W.cell? a = some v) (hf : W.frozen? a = false) : (W.alloc o).frozen? a = false := (frozen_kept h (World.grownBy_alloc W o none) (fun r e => by cases e)).trans hf
def big : Nat := 281474976710656
theorem wrap_id {n : Int} (h0 : -9223372036854775808 ≤ n) (h1 : n ≤ 9223372036854775807) : wrap64 n = n := by unfold wrap64; omega
theorem bits_byte {x y : Int} (h0 : 0 ≤ x) (h1 : x < 9007199254740992) (hy0 : 0 ≤ y) (hy : y < 256) : Go.bits .or .i64 (x * 256) y = x * 256 + y :=
  bits_join .i64 62 (by decide) (fun n a b => by rw [IntKind.wrap_i64]; omega) 8 (x * 256) y (by omega) (by omega) (by omega) hy0 (by omega) (by omega)
theorem wrap_u64 {n : Int} (h0 : 0 ≤ n) (h1 : n ≤ 18446744073709551615) : IntKind.u64.wrap n = n := IntWalk.u64_in n ⟨h0, h1⟩
theorem wrap_u16 {n : Int} (h0 : 0 ≤ n) (h1 : n ≤ 65535) : IntKind.u16.wrap n = n := IntWalk.u16_in n ⟨h0, h1⟩
theorem and_low {n : Int} (h0 : 0 ≤ n) (h1 : n ≤ 18446744073709551615) : Go.bits .and .u64 n 65535 = n % 65536 :=
  bits_mask .u64 64 (by decide) (fun n a b => wrap_u64 a (by omega)) 16 (by decide) n h0 (by omega)
theorem unary_xor_u16 (n : Int) : Op.unary .xor (.int .u16 n) = Op.intBits .xor .u16 65535 n := rfl
attribute [go_sem high] unary_xor_u16
namespace Kb
def Q (_ : Kd Int) (e : Nat) (w : World) (base : Nat) (ok : Nat → Prop) (v : Value) (xs : List Int) : Prop :=
  (∀ k, v.ownBlock = some k → ok k) ∧ ∃ g cap cur, v = .slice (some ⟨g, 0, none⟩) xs.length cap ∧ base ≤ g ∧ w.heap[g]? = some (.cells cur e (cap, cap + 1)) ∧ xs.length ≤ cap ∧ cap ≤ maxLen ∧ cur.size = cap ∧ cur.toList.take xs.length = nums .u8 xs
section
variable {d : Kd Int} {e : Nat} {w w1 W : World} {base : Nat} {ok ok' : Nat → Prop} {v : Value} {xs : List Int}
section
variable {P : Program} {ops : Array Oper} {rest : List Oper} {o : Oper} {a : Act} {Q' : Exit → Act → World → Prop}
end
end
end Kb
/-! Short words for what the printed walks say again and again (tools/zip2.py). -/
theorem BW {P Q : Prop} (h : Aside0 P) (q : P → Q := by intro HB; repeat (first | (with_reducible first | exact HB | apply below_alloc | apply pw_below_drewN | apply below_drew1 | refine below_set ?_ (Aside0.out (by assumption))) | exact HB)) : Q := q h.out
theorem RT {Q : Prop} (q : Q := by first | rfl | (simp [errW_none, errW_some] <;> rfl) | (simp [*, errW_none, errW_some] <;> rfl)) : Q := q
theorem AG {Q : Prop} (q : Q := by (try simp only [List.map_toArray, List.map_cons, List.map_nil]); first | done | rfl | (simp only [List.length_drop, List.length_take]; rfl)) : Q := q
theorem zpA {α : Type} {l : List α} {i : Nat} {a : α} : l.toArray.setIfInBounds i a = (l.set i a).toArray := List.setIfInBounds_toArray l i a
theorem zpO {α : Type} {x : α} {xs : List α} {a : α} : (x :: xs).set 0 a = a :: xs := rfl
theorem zpS {α : Type} {x : α} {xs : List α} {i : Nat} {a : α} : (x :: xs).set (i + 1) a = x :: xs.set i a := rfl
theorem pu {P : Program} {ops : Array Oper} {Q : Exit → Act → World → Prop} {md : Region.Mode} {S : World → Prop} {ds : List Nat} {T : Bool × List (List Nat × List Nat)} {oi : Oper} {v : Value} {fuel : Nat} {l : Array Bool} {a a' : Act} {w : World} (i n : Nat) (l' : Array Bool) (hT : Aside0 (rtab md ops = T)) (h : wpAnyLast P md ops Q S ds fuel l' a' w) (hi : ops[i]? = some oi := by rfl) (hN : oi.dst = some n := by rfl) (hc : anyT T l.toList l'.toList i = true := by kernel_rfl) (hQ : ∀ c a w, Q (.panic c) (a.put oi.dst v) w → Q (.panic c) a w := by exact fun _ _ _ h => h) (hy : Yields P ops oi v a := by refine Or.inl ⟨by rfl, ?_⟩; intro w'; go_simp; with_reducible rfl) (ha : a.put (some n) v = a' := by simp only [Act.put, zpA, zpO, zpS, i64_w, i32_w]; rfl) : wpAnyLast P md ops Q S ds (fuel + 1) l a w := pure_ (i := i) (N := some n) l' hi hN (any_of hT.out hc) hQ hy ha h
theorem tw1 {P : Program} {ops : Array Oper} {Q : Exit → Act → World → Prop} {md : Region.Mode} {S : World → Prop} {ds : List Nat} {oi : Oper} {v : Value} {fuel : Nat} {l : Array Bool} {a a' : Act} {w : World} {T : Bool × List (List Nat × List Nat)} {B : List Nat} (i n : Nat) (l' : Array Bool) (hT : Aside0 (rtab md ops = T)) (hB : Aside0 (waitsOk T.2 B = true)) (hS : S w) (h : wpAnyLast P md ops Q S ds fuel l' a' w) (hi : ops[i]? = some oi := by rfl) (hN : oi.dst = some n := by rfl) (hc : takeW T B ds l.toList l'.toList i = true := by kernel_rfl) (hQ : ∀ c a w, Q (.panic c) (a.put oi.dst v) w → Q (.panic c) a w := by exact fun _ _ _ h => h) (hy : YieldsIf P ops S oi v a := by refine Or.inl ⟨by rfl, ?_⟩; intro w' s0; go_simp; with_reducible rfl) (ha : a.put (some n) v = a' := by simp only [Act.put, zpA, zpO, zpS, i64_w, i32_w]; rfl) : wpAnyLast P md ops Q S ds (fuel + 1) l a w := take_ (i := i) (N := some n) l' hi hN (take_ofW hT.out hB.out hc) hQ hy hS ha h
end Go.Proofs.Ytkdmdnihkhhpiaa.Pr
