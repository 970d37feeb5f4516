/- Words of Base and its like that one law more needs. -/
import Derived.ArgAppend
import Derived.Below
import Derived.BigQuiet
import Derived.Deep.AppendLies
import Derived.Deep.CutBlock
import Derived.Deep.DeepCutAuto
import Derived.Deep.Draws
import Derived.Deep.LoopGhost
import Derived.Deep.OwnRows
import Derived.Deep.QuietTactic
import Derived.Deep.RegionHeld3
import Derived.KernelRfl
import Derived.Laws.BitsLemmas
import Derived.Laws.BytesArg
import Derived.Laws.IdiomCopy
import Derived.Laws.MakeOwn
import Derived.Laws.OwnMore
import Derived.Laws.Rows
import Derived.Laws.Slices
import Derived.Laws.StructEq
import Derived.Lib.AppendStr
import Derived.Lib.ConvBytes
import Derived.Lib.Hide
import Derived.Lib.UnsafeStr
import Derived.LoopIn
import Derived.LoopNIn
import Derived.Maps.AppendAt
import Derived.Maps.Own
import Derived.Maps.OwnOps
import Derived.Maps.OwnSet
import Derived.Maps.Views
import Derived.OneCell
import Derived.OrdersHeld
import Derived.Outline
import Derived.OwnWalk
import Derived.OwnWalkIn
import Derived.RangeFuncBound
import Derived.RangeFuncCalls
import Derived.RangeFuncLeaves
import Derived.RangeFuncNested
import Derived.RowKit
import Derived.RowKit3
import Derived.Shelf.Abstract
import Derived.Shelf.RegionOpen
import Derived.Tactics
import Derived.TacticsInMore
import Derived.Test.YtkganedlhcepfaaBase
import Derived.Test.YtkganedlhcepfaaFrm
import Derived.Test.YtkganedlhcepfaaLem
import Derived.Test.YtkganedlhcepfaaPr0
import Derived.Test.YtkganedlhcepfaaSpec
import Derived.Test.YtkganedlhcepfaaWApart
import Derived.Test.YtkganedlhcepfaaWArr
import Derived.Test.YtkganedlhcepfaaWAt
import Derived.Test.YtkganedlhcepfaaWEqStruct
import Derived.Test.YtkganedlhcepfaaWFoot
import Derived.Test.YtkganedlhcepfaaWFootNe
import Derived.Test.YtkganedlhcepfaaWFour
import Derived.Test.YtkganedlhcepfaaWGuard
import Derived.Test.YtkganedlhcepfaaWInv
import Derived.Test.YtkganedlhcepfaaWInvWords
import Derived.Test.YtkganedlhcepfaaWKept
import Derived.Test.YtkganedlhcepfaaWLast
import Derived.Test.YtkganedlhcepfaaWMore
import Derived.Test.YtkganedlhcepfaaWN
import Derived.Test.YtkganedlhcepfaaWNEv
import Derived.Test.YtkganedlhcepfaaWQPut
import Derived.Test.YtkganedlhcepfaaWRepsOne
import Derived.Test.YtkganedlhcepfaaWShare
import Derived.Test.YtkganedlhcepfaaWTab
import Derived.Test.YtkganedlhcepfaaWWords
import Derived.Test.YtkganedlhcepfaaWZeros
import Derived.WalkKit
import Derived.WideLaws
set_option linter.unusedVariables false
set_option linter.unusedSimpArgs false
-- PRINTED BY print.sh 35421559b90ae4d0a3588c463048766b98c2df88dd9212a6774a882060cdf62d: not written by this session
-- PRINTED WORDS (module Derived/Print/Words.lean): go-wishes' parts 1 to 38 and go-gate-2's additions: AI agents of Go's test side, Mon Nov 16 2026; no person has read them. Plain theorems and definitions: no macro, no elab, no axiom.
set_option linter.unusedVariables false
set_option linter.unusedSimpArgs false
namespace Go.Proofs.YtkganedlhcepfaaW.PrintWords
open Go.RowKit

/-! ### 5. append(v, x): behind 'at_builtin'; the goal's world is 'W.alloc' of the variadic's box -/
section
variable {P : Program} {ops : Array Oper} {rest : List Oper} {o : Oper} {a : Act} {Q : Exit → Act → World → Prop}

end

/-! ### 6. make([]T, n), n an Int; a literal -/
section
variable {P : Program}
end
/-! ### 8. append(v, ys...): ys a slice that is read, nil let in; behind 'at_builtin' -/
section
variable {P : Program} {ops : Array Oper} {rest : List Oper} {o : Oper} {a : Act} {Q : Exit → Act → World → Prop}
end

section
variable {P : Program} {ops : Array Oper} {rest : List Oper} {o : Oper} {a : Act} {Q : Exit → Act → World → Prop}
end

/-! ### 14. append as_ one step of a region that draws its order: for 'go_region_law' (and a region walked by hand) -/
section
variable {P : Program} {ops : Array Oper} {o : Oper} {a : Act} {Q : Exit → Act → World → Prop} {K : Act → World → Prop}
end
/-! ### 16. Parts 3 to 9 for ANY element of one cell: 'enc' (Value.int k, Value.string, Value.bool), a default 'd' -/
section
variable {α : Type} {enc : α → Value} {d : α}
end
section
variable {α : Type} {P : Program} {ops : Array Oper} {rest : List Oper} {o : Oper} {a : Act} {Q : Exit → Act → World → Prop}
end

/-! ### 19. Results that lie in memory beside others -/
section
variable {P : Program}
end
section
variable {α : Type} {R R' : α → List Value → Prop} {e : TypeId} {size : Nat} {w w1 : World} {base : Nat} {v : Value} {ps : List α}
end
section
variable {P : Program} {ops : Array Oper} {rest : List Oper} {o : Oper} {a : Act} {Q : Exit → Act → World → Prop} {α : Type} {R : α → List Value → Prop}
end
section
variable {P : Program} {ops : Array Oper} {o : Oper} {a : Act} {Q : Exit → Act → World → Prop} {K : Act → World → Prop} {α : Type} {R : α → List Value → Prop}
end
/-! ### 21. Cuts of a slice that came in, lengths spelled as_ the lists' -/
section
variable {α : Type} {P : Program}
end

/-! ### 22. append([]byte, s...), s a string; behind 'at_builtin'. (No word on where the new row lies: two rows of bytes at once don't go by it.) -/
section
variable {P : Program} {ops : Array Oper} {rest : List Oper} {o : Oper} {a : Act} {Q : Exit → Act → World → Prop}
end
namespace Kd
section
variable {α : Type} {d : Kd α} {e : Nat} {w w1 : World} {base : Nat} {ok ok' : Nat → Prop} {v : Value} {xs : List α}
end

section
variable {P : Program} {ops : Array Oper} {rest : List Oper} {o : Oper} {a : Act} {Q : Exit → Act → World → Prop} {α : Type}
end
section
variable {P : Program} {ops : Array Oper} {o : Oper} {a : Act} {Q : Exit → Act → World → Prop} {Kc : Act → World → Prop} {α : Type}
end
end Kd
/-! ### 24. Kinds nested in themselves -/
namespace Kd
section
variable {α : Type} {F : Kd α → Kd α} {sz : Nat} {E : List Nat} {hs : ∀ n, (upto F sz E n).sz = sz} {hE : ∀ n q, q ∈ (upto F sz E n).E → q ∈ E}
end
end Kd
/-! ### 25. What is held while another row is written: 'ok' says that its rows are none of that row's block -/
namespace Kd
end Kd
/-! ### 26. Words for a printer that takes every slice by its kind -/
namespace Kd
section
variable {α β : Type} {d : Kd α} {d' : Kd β} {e e' : Nat} {w w1 W : World} {base b b' : Nat} {ok ok' okv oku : Nat → Prop} {v u : Value} {xs : List α} {ys : List β}
end
/-! #### scalars -/
section
variable {w W : World} {A : Option Addr} {n : Nat}
variable {α : Type} {enc : α → Value} {h1 : ∀ x, (enc x).oneCell' = true} {e base g cap : Nat} {ok : Nat → Prop} {xs : List α}
end

/-! #### events: a letter for what make and a literal leave -/
section
variable {P : Program} {ops : Array Oper} {rest : List Oper} {o : Oper} {a : Act} {Q : Exit → Act → World → Prop}
variable {α : Type}
end
end Kd
section
variable {P : Program}
end
section
variable {w w1 : World} {base n size : Nat} {e : TypeId} {v : Value} {xs : List Value}
theorem q_move (h : QRow w base e size v n xs) (hm : ∀ k, v.ownBlock = some k → w1.heap[k]? = w.heap[k]?) : QRow w1 base e size v n xs := by
  obtain ⟨h1, h2⟩ := h
  refine ⟨h1, ?_⟩
  rcases h2 with ⟨h0, A, rfl, hA⟩ | ⟨g, off, cap, cur, rfl, hg, hh, r⟩
  · refine .inl ⟨h0, A, rfl, fun a ha => ?_⟩
    obtain ⟨hb, cur, hc⟩ := hA a ha
    subst ha
    exact ⟨hb, cur, (hm a.block (by simp [Value.ownBlock])).trans hc⟩
  · exact .inr ⟨g, off, cap, cur, rfl, hg, (hm g (by simp [Value.ownBlock])).trans hh, r⟩
theorem q_typed (h : QRow w base e size v n xs) (k : Nat) (hk : v.ownBlock = some k) : base ≤ k ∧ ∃ cells, w.heap[k]? = some (.cells cells e (0, 0)) := by
  rcases h.2 with ⟨_, A, rfl, hA⟩ | ⟨g, off, cap, cur, rfl, hg, hh, r⟩
  · cases A with
    | none => simp [Value.ownBlock] at hk
    | some a =>
      have : a.block = k := by simpa [Value.ownBlock] using hk
      subst this
      exact hA a rfl
  · have : g = k := by simpa [Value.ownBlock] using hk
    subst this
    exact ⟨hg, cur, hh⟩
theorem q_lt (h : QRow w base e size v n xs) (k : Nat) (hk : v.ownBlock = some k) : k < w.heap.size := by
  obtain ⟨_, cells, hc⟩ := q_typed h k hk
  exact (Array.getElem?_eq_some_iff.1 hc).1
theorem q_lower {base' : Nat} (h : QRow w base e size v n xs) (hb : base' ≤ base) : QRow w base' e size v n xs := by
  obtain ⟨h1, h2⟩ := h
  refine ⟨h1, ?_⟩
  rcases h2 with ⟨h0, A, rfl, hA⟩ | ⟨g, off, cap, cur, rfl, hg, r⟩
  · exact .inl ⟨h0, A, rfl, fun a ha => ⟨Nat.le_trans hb (hA a ha).1, (hA a ha).2⟩⟩
  · exact .inr ⟨g, off, cap, cur, rfl, Nat.le_trans hb hg, r⟩
theorem q_slice (h : QRow w base e size v n xs) : ∃ A c, v = .slice A n c ∧ n ≤ c := by
  rcases h.2 with ⟨h0, A, rfl, _⟩ | ⟨g, off, cap, cur, rfl, hg, hh, hnc, r⟩
  · exact ⟨A, 0, by rw [h0], by omega⟩
  · exact ⟨_, cap, rfl, hnc⟩
theorem q_max (h : QRow w base e size v n xs) : n ≤ 9223372036854775807 := by
  rcases h.2 with ⟨h0, _⟩ | ⟨g, off, cap, cur, rfl, hg, hh, hnc, hm, r⟩
  · omega
  · simp only [maxLen] at hm
    omega
theorem add_at (g o j : Nat) : (⟨g, o, none⟩ : Addr).add j = ⟨g, o + j, none⟩ := by unfold Addr.add; split <;> simp_all
theorem q_cells {A : Option Addr} {c : Nat} (h : QRow w base e size (.slice A n c) n xs) (hn : 0 < n) : ∃ ad, A = some ad ∧ ∀ j u, xs[j]? = some u → w.cell? (ad.add j) = some u := by
  rcases h.2 with ⟨h0, _⟩ | ⟨g, off, cap, cur, he, hg, hh, hnc, hm, hcs, ht⟩
  · omega
  · injection he with ha _ hc
    subst ha
    refine ⟨_, rfl, fun j u hu => ?_⟩
    rw [add_at, cell_of_row w g _ cur e (0, 0) hh]
    rw [← ht, List.getElem?_take] at hu
    split at hu
    · rw [List.getElem?_drop] at hu
      rw [← Array.getElem?_toList]
      exact hu
    · cases hu
/-- What a run of cells written leaves. -/
theorem setCells_far {g : Nat} : ∀ (vs : List Value) (o : Nat) {w : World} (k : Nat), k ≠ g → (w.setCells g o vs).heap[k]? = w.heap[k]?
  | [], _, _, _, _ => rfl
  | v :: r, o, w, k, hk => by
    rw [World.setCells, setCells_far r (o + 1) k hk]
    exact Below.heap_setCell w ⟨g, o, none⟩ v k hk
theorem setCells_same (g : Nat) : ∀ (vs : List Value) (o : Nat) (w : World), (w.setCells g o vs).os = w.os ∧ (w.setCells g o vs).tape = w.tape ∧ (w.setCells g o vs).output = w.output ∧ (w.setCells g o vs).heap.size = w.heap.size
  | [], _, _ => ⟨rfl, rfl, rfl, rfl⟩
  | v :: r, o, w => by
    obtain ⟨h1, h2, h3, h4⟩ := setCells_same g r (o + 1) (w.setCell ⟨g, o, none⟩ v)
    rw [World.setCells]
    exact ⟨h1, h2, h3, by rw [h4]; simp [World.setCell]⟩
theorem setCells_row {g : Nat} {e : TypeId} : ∀ (vs : List Value) (o : Nat) (w : World) (cur : Array Value), w.heap[g]? = some (.cells cur e (0, 0)) → o + vs.length ≤ cur.size →
    ∃ cur', (w.setCells g o vs).heap[g]? = some (.cells cur' e (0, 0)) ∧ cur'.size = cur.size ∧ cur'.toList = cur.toList.take o ++ vs ++ cur.toList.drop (o + vs.length)
  | [], o, w, cur, h, _ => ⟨cur, h, rfl, by simp⟩
  | v :: r, o, w, cur, h, hl => by
    have h2 := blk_set h o v
    simp only [List.length_cons] at hl
    obtain ⟨cur', h3, h4, h5⟩ := setCells_row r (o + 1) (w.setCell ⟨g, o, none⟩ v) _ h2 (by simp; omega)
    refine ⟨cur', h3, by rw [h4]; simp, ?_⟩
    rw [h5, Array.toList_setIfInBounds]
    have ho : o < cur.toList.length := by rw [Array.length_toList]; omega
    rw [List.take_set, List.drop_set_of_lt (by omega)]
    simp only [List.length_cons]
    rw [show o + 1 + r.length = o + (r.length + 1) by omega]
    congr 1
    rw [List.take_succ_eq_append_getElem ho, List.set_append_right _ _ (by rw [List.length_take]; omega)]
    have ho' : o < cur.size := by omega
    simp [Nat.min_eq_left (Nat.le_of_lt ho')]
end
section
variable {P : Program}
end
/-! ### 28. The kinds' words for cuts: R_take; Q (a row that may begin inside its block) with all of R's movers -/
namespace Kd
section
variable {α : Type} {d : Kd α} {e : Nat} {w w1 W : World} {base : Nat} {ok ok' : Nat → Prop} {v : Value} {xs : List α}
theorem Q_mono (h : d.Q e w base ok v xs) (hok : ∀ k, ok k → ok' k) : d.Q e w base ok' v xs := by
  obtain ⟨h0, inner, ho, hr⟩ := h
  exact ⟨fun k hk => hok k (h0 k hk), inner, ho, hr.imp_ (fun _ _ hp => d.M_mono (fun k hk => ⟨hok k hk.1, hk.2⟩) hp)⟩
theorem Q_bound (h : d.Q e w base ok v xs) : d.Q e w base (fun k => ok k ∧ base ≤ k ∧ k < w.heap.size ∧ ∃ q, q ∈ e :: d.E ∧ ∃ cells, w.heap[k]? = some (.cells cells q (0, 0))) v xs := by
  obtain ⟨h0, inner, ho, hr⟩ := h
  refine ⟨fun k hk => ?_, inner, ho, hr.imp_ (fun _ _ hp => d.M_mono (fun k hk => ?_) (d.M_bound hp))⟩
  · obtain ⟨hb, cells, hc⟩ := q_typed ho k hk
    exact ⟨h0 k hk, hb, q_lt ho k hk, e, List.mem_cons_self, cells, hc⟩
  · obtain ⟨⟨h1, h2⟩, h3, h4, q, hq, hc⟩ := hk
    exact ⟨⟨h1, h3, h4, q, List.mem_cons_of_mem _ hq, hc⟩, h2⟩
theorem Q_move (h : d.Q e w base ok v xs) (hm : ∀ k, ok k → w1.heap[k]? = w.heap[k]?) : d.Q e w1 base ok v xs := by
  obtain ⟨h0, inner, ho, hr⟩ := h
  exact ⟨h0, inner, q_move ho (fun k hk => hm k (h0 k hk)), hr.imp_ (fun _ _ hp => d.M_move (fun k hk => hm k hk.1) hp)⟩
theorem Q_lower {base' : Nat} (h : d.Q e w base ok v xs) (hb : base' ≤ base) : d.Q e w base' ok v xs := by
  obtain ⟨h0, inner, ho, hr⟩ := h
  exact ⟨h0, inner, q_lower ho hb, hr.imp_ (fun _ _ hp => d.M_lower hb hp)⟩
theorem Q_step (h : d.Q e w base ok v xs) (hm : ∀ k, ok k → k < w.heap.size → w1.heap[k]? = w.heap[k]?) : d.Q e w1 base ok v xs := Q_mono (Q_move (Q_bound h) (fun k hk => hm k hk.1 hk.2.2.1)) (fun _ hk => hk.1)
theorem Q_below (h : d.Q e w base ok v xs) (hb : Below w.heap.size w w1) : d.Q e w1 base ok v xs := Q_step h (fun k _ hk => hb.block k hk)
theorem Q_alloc (h : d.Q e w base ok v xs) (o : Obj) : d.Q e (w.alloc o) base ok v xs := Q_below h (below_alloc (Below.refl _ _) o)
theorem Q_drew (h : d.Q e w base ok v xs) : d.Q e w.drew base ok v xs := Q_below h (below_drew (Below.refl _ _))
theorem Q_drewN (h : d.Q e w base ok v xs) (m : Nat) : d.Q e (w.drewN m) base ok v xs := Q_below h (pw_below_drewN (Below.refl _ _) m)
theorem Q_far (h : d.Q e w base ok v xs) {p : Addr} (hok : ∀ k, ok k → k ≠ p.block) (u : Value) : d.Q e (w.setCell p u) base ok v xs := Q_step h (fun k ho _ => Below.heap_setCell w p u k (hok k ho))
theorem Q_types (h : d.Q e w base ok v xs) {g t : Nat} {cells : Array Value} (hb : w.heap[g]? = some (.cells cells t (0, 0))) (ht : ∀ q, q ∈ e :: d.E → q ≠ t) : d.Q e w base (fun k => ok k ∧ k ≠ g) v xs :=
  Q_mono (Q_bound h) (fun k hk => ⟨hk.1, by
    obtain ⟨_, _, _, q, hq, cells', hc⟩ := hk
    rintro rfl
    rw [hc] at hb
    injection hb with hb
    injection hb with _ hb
    exact ht q hq hb⟩)
theorem Q_lt (h : d.Q e w base ok v xs) : ∀ k, v.ownBlock = some k → k < w.heap.size := by
  obtain ⟨_, inner, ho, _⟩ := h
  exact q_lt ho
theorem Q_base (h : d.Q e w base ok v xs) : ∀ k, v.ownBlock = some k → base ≤ k := by
  obtain ⟨_, inner, ho, _⟩ := h
  exact fun k hk => (q_typed ho k hk).1
theorem Q_ne (h : d.Q e w base ok v xs) {g t : Nat} {cells : Array Value} (hb : w.heap[g]? = some (.cells cells t (0, 0))) (ht : e ≠ t) : some g ≠ v.ownBlock := by
  obtain ⟨_, inner, ho, _⟩ := h
  intro he
  obtain ⟨_, cells', hc⟩ := q_typed ho g he.symm
  rw [hc] at hb
  injection hb with hb
  injection hb with _ hb
  exact ht hb
theorem Q_slice (h : d.Q e w base ok v xs) : ∃ A c, v = .slice A xs.length c ∧ xs.length ≤ c := by
  obtain ⟨_, inner, ho, _⟩ := h
  exact q_slice ho
theorem Q_reads' {A : Option Addr} {n c : Nat} (h : d.Q e w base ok (.slice A n c) xs) : n = xs.length ∧ n ≤ c ∧ d.C w A xs.length xs := by
  obtain ⟨_, inner, ho, hr⟩ := h
  obtain ⟨A', c', he, hl⟩ := q_slice ho
  injection he with h1 h2 h3
  subst h1; subst h2; subst h3
  refine ⟨rfl, hl, rfl, q_max ho, fun hp => ?_⟩
  obtain ⟨ad, ha, hc⟩ := q_cells ho hp
  refine ⟨ad, ha, fun j p hj => ⟨(inner.drop (j * d.sz)).take d.sz, ?_, d.K_of_M (hr.2 j p hj), fun i u hu => ?_⟩⟩
  · have hjl := (List.getElem?_eq_some_iff.1 hj).1
    have h1 : j * d.sz + d.sz ≤ inner.length := by rw [hr.1, ← Nat.succ_mul]; exact Nat.mul_le_mul_right _ hjl
    rw [List.length_take, List.length_drop]
    omega
  · refine hc _ u ?_
    rw [List.getElem?_take] at hu
    split at hu
    · rw [List.getElem?_drop] at hu
      exact hu
    · cases hu
end
section
variable {P : Program} {ops : Array Oper} {rest : List Oper} {o : Oper} {a : Act} {Q' : Exit → Act → World → Prop} {Kc : Act → World → Prop} {α : Type}
end
end Kd
/-! ### 29. Movers that ask of another row no more than they need: for R and for Q -/
namespace Kd
section
variable {α : Type} {d : Kd α} {e e' : Nat} {w w1 W : World} {base : Nat} {ok : Nat → Prop} {u v : Value} {xs : List α}
end
end Kd
/-! ### 30. Elements written: x[i] = T{..}, x[i].f = v, swaps, in a row of elements of any kind -/
theorem seg_get {α : Type} (a seg : List α) (o : Nat) (h : o + seg.length ≤ a.length) (q : Nat) :
    (a.take o ++ seg ++ a.drop (o + seg.length))[q]? = if q < o then a[q]? else if q < o + seg.length then seg[q - o]? else a[q]? := by
  have hl : (a.take o).length = o := by rw [List.length_take]; omega
  rw [List.append_assoc]
  by_cases h1 : q < o
  · rw [if_pos h1, List.getElem?_append_left (by omega), List.getElem?_take, if_pos h1]
  · rw [if_neg h1, List.getElem?_append_right (by omega), hl]
    by_cases h2 : q < o + seg.length
    · rw [if_pos h2, List.getElem?_append_left (by omega)]
    · rw [if_neg h2, List.getElem?_append_right (by omega), List.getElem?_drop]
      congr 1
      omega
namespace Kd
section
variable {α : Type} {d : Kd α} {e base g n cap : Nat} {ok okp : Nat → Prop} {W : World} {xs : List α}
end
end Kd
/-! ### 31. What came in, put into what is made: 'fixed d w0' (read in w0, whatever happens since), 'or_ a b', 'mix' (a slice that came in, or one that is made) -/
namespace Kd
section
variable {α : Type} {F : Kd α → Kd α} {sz : Nat} {E : List Nat} {hs : ∀ n, (upto F sz E n).sz = sz} {hE : ∀ n q, q ∈ (upto F sz E n).E → q ∈ E}
end
end Kd
/-! ### 32. A whole row appended, of elements of any kind; copy onto a row of scalars of one's own -/
namespace Kd
section
variable {P : Program} {ops : Array Oper} {rest : List Oper} {o : Oper} {a : Act} {Q : Exit → Act → World → Prop} {α : Type}
end
end Kd
namespace Kd
section
variable {P : Program} {ops : Array Oper} {rest : List Oper} {o : Oper} {a : Act} {Q : Exit → Act → World → Prop} {α : Type}
end
end Kd
namespace Kd
section
variable {α : Type} {k : Kd α} {w : World} {A : Option Addr} {xs : List α} {m c : Nat}
end
end Kd
section
variable {P : Program}
end
namespace Kd
section
variable {α β : Type} {d : Kd α} {d' : Kd β} {e e' base base' n : Nat} {ok ok' : Nat → Prop} {w W w1 W1 : World} {v u : Value} {xs : List α} {ys : List β} {A : Option Addr} {c : Nat}
end
section
variable {α : Type} {enc : α → Value} {h1 : ∀ x, (enc x).oneCell' = true} {w W : World} {A : Option Addr} {n g : Nat} {xs : List α}
end
end Kd
namespace Kd
section
variable {α : Type} {d : Kd α} {e base g : Nat} {ok : Nat → Prop} {w w1 : World} {v : Value} {xs : List α} {o : Obj}
end
end Kd
section
variable {P : Program} {ops : Array Oper} {rest : List Oper} {o : Oper} {a : Act} {Q : Exit → Act → World → Prop}
end
namespace Kd
section
variable {α : Type} {enc : α → Value} {h1 : ∀ x, (enc x).oneCell' = true} {e base g n cap : Nat} {ok : Nat → Prop} {W : World} {xs : List α}
end
end Kd
section
variable {P : Program} {ops : Array Oper} {rest : List Oper} {o : Oper} {a : Act} {Q : Exit → Act → World → Prop}
end
namespace Kd
section
variable {α : Type} {enc : α → Value} {h1 : ∀ x, (enc x).oneCell' = true} {e base g n cap : Nat} {ok : Nat → Prop} {W : World} {xs : List α}
end
end Kd
section
variable {P : Program} {ops : Array Oper} {rest : List Oper} {o : Oper} {a : Act} {Q : Exit → Act → World → Prop} {W : World}
end
/-! ### 36. Events as_ one step of a region that draws (for one_, two_, three_) -/
section
variable {P : Program} {ops : Array Oper} {o : Oper} {a : Act} {Q : Exit → Act → World → Prop} {Kc : Act → World → Prop}
namespace Kd
variable {α : Type}
end Kd
end
section
variable {P : Program} {tmps : Array Value} {w : World}
end
/-! ### 38. 'out = append(out[:k], out[k+1:]...)': an element taken out of a row of one's own, in place -/
namespace Kd
section
variable {P : Program} {α : Type}
end
section
variable {P : Program} {ops : Array Oper} {rest : List Oper} {o : Oper} {a : Act} {Q : Exit → Act → World → Prop} {Kc : Act → World → Prop} {α : Type}
end
end Kd

end Go.Proofs.YtkganedlhcepfaaW.PrintWords

-- PRINTED BY print.sh 35421559b90ae4d0a3588c463048766b98c2df88dd9212a6774a882060cdf62d: not written by this session
/-! ### 39. Stores into a row that may begin inside its block (Q): Q_form, Q_elem, Q_seg; scalars: Q_cell, Q_putg -/
namespace Go.Proofs.YtkganedlhcepfaaW.PrintWords
open Go.RowKit
namespace Kd
section
variable {α : Type} {d : Kd α} {e base g o n cap : Nat} {ok okp : Nat → Prop} {w W : World} {v : Value} {xs : List α}
theorem Q_form (h : d.Q e w base ok v xs) (hp : 0 < xs.length) : ∃ g o cap, v = .slice (some ⟨g, o, none⟩) xs.length cap ∧ base ≤ g ∧ g < w.heap.size ∧ ∃ cells, w.heap[g]? = some (.cells cells e (0, 0)) := by
  obtain ⟨h0, inner, hq, hr⟩ := h
  rcases hq.2 with ⟨h1, _⟩ | ⟨g, off, cap, cur, rfl, hb, hh, r⟩
  · omega
  · exact ⟨g, off * d.sz, cap, rfl, hb, blk_lt hh, cur, hh⟩
/-- Element i of such a row: its cells. -/
theorem Q_elem (h : d.Q e W base ok (.slice (some ⟨g, o, none⟩) n cap) xs) (z : α) (i : Int) (h0 : 0 ≤ i) (h1 : i < n) :
    ∃ c, c.length = d.sz ∧ d.M W base (fun k => ok k ∧ k ≠ g) (xs.getD i.toNat z) c ∧ (∀ j u, c[j]? = some u → W.cell? ⟨g, o + i.toNat * d.sz + j, none⟩ = some u) ∧ ∀ j, W.frozen? ⟨g, o + i.toNat * d.sz + j, none⟩ = false := by
  obtain ⟨hn, hnc, hC⟩ := Q_reads' h
  obtain ⟨_, inner, ho, hr⟩ := h
  have hil : i.toNat < xs.length := by omega
  have hseg : i.toNat * d.sz + d.sz ≤ inner.length := by rw [hr.1, ← Nat.succ_mul]; exact Nat.mul_le_mul_right _ hil
  have hM := hr.2 i.toNat _ (List.getElem?_eq_getElem hil)
  refine ⟨(inner.drop (i.toNat * d.sz)).take d.sz, by rw [List.length_take, List.length_drop]; omega, ?_, fun j u hu => ?_, fun j => ?_⟩
  · rw [List.getD_eq_getElem?_getD, List.getElem?_eq_getElem hil]
    exact d.M_mono (fun k hk => ⟨hk.1, fun he => hk.2 (by rw [he]; simp [Value.ownBlock])⟩) hM
  · rw [List.getElem?_take] at hu
    split at hu
    · rw [List.getElem?_drop] at hu
      subst hn
      obtain ⟨ad, he, hc⟩ := q_cells ho (by omega)
      injection he with he
      subst he
      have := hc _ u hu
      rwa [add_at, ← Nat.add_assoc] at this
    · cases hu
  · obtain ⟨_, cells, hc⟩ := q_typed ho g (by simp [Value.ownBlock])
    exact blk_frozen hc _
/-- A run of cells of element i is written: element i is x' then. c: the element's cells before (Q_elem). -/
theorem Q_seg (h : d.Q e W base ok (.slice (some ⟨g, o, none⟩) n cap) xs) (i : Int) (h0 : 0 ≤ i) (h1 : i < n) {c seg : List Value} {j : Nat} (hcl : c.length = d.sz) (hcc : ∀ j u, c[j]? = some u → W.cell? ⟨g, o + i.toNat * d.sz + j, none⟩ = some u)
    (hj : j + seg.length ≤ d.sz) {x' : α} (hM : d.M W base okp x' (c.take j ++ seg ++ c.drop (j + seg.length))) (hokp : ∀ k, okp k → ok k ∧ k ≠ g) :
    d.Q e (W.setCells g (o + i.toNat * d.sz + j) seg) base ok (.slice (some ⟨g, o, none⟩) n cap) (xs.set i.toNat x') ∧ W.grownBy (W.setCells g (o + i.toNat * d.sz + j) seg) (some g) := by
  obtain ⟨hn, hnc, _⟩ := Q_reads' h
  obtain ⟨hok, inner, ho, hr⟩ := h
  have hil : i.toNat < xs.length := by omega
  have hseg : i.toNat * d.sz + d.sz ≤ inner.length := by rw [hr.1, ← Nat.succ_mul]; exact Nat.mul_le_mul_right _ hil
  have hin : inner.length = n * d.sz := by rw [hr.1, hn]
  obtain ⟨ho1, ho2⟩ := ho
  rcases ho2 with ⟨hz, _⟩ | ⟨g', off, cap', cur, hv, hb, hh, hnc', hcm, hcs, ht⟩
  · omega
  injection hv with ha _ hc
  injection ha with ha
  injection ha with hg hoff
  subst hg; subst hc; subst hoff
  have hcap : n * d.sz ≤ cap * d.sz := Nat.mul_le_mul_right _ hnc
  have hcs' : cur.size = off * d.sz + cap * d.sz := by rw [hcs, Nat.add_mul]
  have hfit : off * d.sz + i.toNat * d.sz + j + seg.length ≤ cur.size := by omega
  obtain ⟨cur', h3, h4, h5⟩ := setCells_row seg (off * d.sz + i.toNat * d.sz + j) W cur hh hfit
  obtain ⟨s1, s2, s3, s4⟩ := setCells_same g seg (off * d.sz + i.toNat * d.sz + j) W
  have hfar : ∀ k, k ≠ g → (W.setCells g (off * d.sz + i.toNat * d.sz + j) seg).heap[k]? = W.heap[k]? := fun k hk => setCells_far seg _ k hk
  rw [← hn] at ht
  -- the row's cells are the block's from off on
  have hat : ∀ q, q < n * d.sz → cur.toList[off * d.sz + q]? = inner[q]? := by
    intro q hq
    rw [← ht, List.getElem?_take, if_pos hq, List.getElem?_drop]
  have hcin : ∀ q, q < d.sz → c[q]? = inner[i.toNat * d.sz + q]? := by
    intro q hq
    have hq' : q < c.length := by omega
    have h6 := hcc q _ (List.getElem?_eq_getElem hq')
    rw [cell_of_row W g _ cur e (0, 0) hh] at h6
    rw [List.getElem?_eq_getElem hq', ← h6, ← hat _ (by omega), Array.getElem?_toList, Nat.add_assoc]
  refine ⟨⟨hok, inner.take (i.toNat * d.sz + j) ++ seg ++ inner.drop (i.toNat * d.sz + j + seg.length), ⟨?_, .inr ⟨g, off, cap, cur', by rw [List.length_set, hn], hb, h3, by rw [List.length_set, ← hn]; exact hnc, hcm, by rw [h4, hcs], ?_⟩⟩, ?_⟩,
    ⟨s1, s2, s3, by rw [s4]; exact Nat.le_refl _, fun k _ hk => hfar k (fun he => hk (by rw [he]))⟩⟩
  · rw [List.length_set]
    simp only [List.length_append, List.length_take, List.length_drop]
    rw [hr.1] at hseg ⊢
    omega
  · rw [List.length_set, ← hn]
    apply List.ext_getElem?
    intro q
    rw [List.getElem?_take, List.getElem?_drop, h5]
    rw [seg_get cur.toList seg (off * d.sz + i.toNat * d.sz + j) (by rw [Array.length_toList]; omega) (off * d.sz + q), seg_get inner seg (i.toNat * d.sz + j) (by omega) q]
    by_cases hq : q < n * d.sz
    · rw [if_pos hq]
      by_cases hq1 : q < i.toNat * d.sz + j
      · rw [if_pos (by omega), if_pos hq1, hat q hq]
      · rw [if_neg (by omega), if_neg hq1]
        by_cases hq2 : q < i.toNat * d.sz + j + seg.length
        · rw [if_pos (by omega), if_pos hq2]
          congr 1
          omega
        · rw [if_neg (by omega), if_neg hq2, hat q hq]
    · rw [if_neg hq, if_neg (by omega), if_neg (by omega), List.getElem?_eq_none (by omega)]
  · refine ⟨?_, fun m p hm => ?_⟩
    · rw [List.length_set]
      simp only [List.length_append, List.length_take, List.length_drop]
      rw [hr.1] at hseg ⊢
      omega
    · have hml : m < xs.length := by
        have := (List.getElem?_eq_some_iff.1 hm).1
        rwa [List.length_set] at this
      have hmfit : m * d.sz + d.sz ≤ inner.length := by rw [hr.1, ← Nat.succ_mul]; exact Nat.mul_le_mul_right _ hml
      have hgo : some g = (Value.slice (some ⟨g, off * d.sz, none⟩) n cap).ownBlock := by simp [Value.ownBlock]
      by_cases hmi : m = i.toNat
      · subst hmi
        rw [List.getElem?_set_self (by omega)] at hm
        injection hm with hm
        subst hm
        have hcells : ((inner.take (i.toNat * d.sz + j) ++ seg ++ inner.drop (i.toNat * d.sz + j + seg.length)).drop (i.toNat * d.sz)).take d.sz = c.take j ++ seg ++ c.drop (j + seg.length) := by
          apply List.ext_getElem?
          intro q
          rw [List.getElem?_take, List.getElem?_drop, seg_get inner seg _ (by omega), seg_get c seg j (by omega) q]
          by_cases hq : q < d.sz
          · rw [if_pos hq, hcin q hq]
            by_cases hq1 : q < j
            · rw [if_pos (by omega), if_pos hq1]
            · rw [if_neg (by omega), if_neg hq1]
              by_cases hq2 : q < j + seg.length
              · rw [if_pos (by omega), if_pos hq2]
                congr 1
                omega
              · rw [if_neg (by omega), if_neg hq2]
          · rw [if_neg hq, if_neg (by omega), if_neg (by omega), List.getElem?_eq_none (by omega)]
        rw [hcells]
        refine d.M_mono (fun k hk => ?_) (d.M_move (w1 := W.setCells g (off * d.sz + i.toNat * d.sz + j) seg) (fun k hk => hfar k (hokp k hk).2) hM)
        exact ⟨(hokp k hk).1, fun he => (hokp k hk).2 (by rw [← hgo] at he; injection he)⟩
      · rw [List.getElem?_set_ne (by omega)] at hm
        have hold := hr.2 m p hm
        have hcells : ((inner.take (i.toNat * d.sz + j) ++ seg ++ inner.drop (i.toNat * d.sz + j + seg.length)).drop (m * d.sz)).take d.sz = (inner.drop (m * d.sz)).take d.sz := by
          apply List.ext_getElem?
          intro q
          rw [List.getElem?_take, List.getElem?_take, List.getElem?_drop, List.getElem?_drop, seg_get inner seg _ (by omega)]
          by_cases hq : q < d.sz
          · rw [if_pos hq, if_pos hq]
            rcases Nat.lt_or_gt_of_ne hmi with hlt | hgt
            · have : m * d.sz + d.sz ≤ i.toNat * d.sz := by rw [← Nat.succ_mul]; exact Nat.mul_le_mul_right _ hlt
              rw [if_pos (by omega)]
            · have : i.toNat * d.sz + d.sz ≤ m * d.sz := by rw [← Nat.succ_mul]; exact Nat.mul_le_mul_right _ hgt
              rw [if_neg (by omega), if_neg (by omega)]
          · rw [if_neg hq, if_neg hq]
        rw [hcells]
        refine d.M_move (fun k hk => hfar k (fun he => hk.2 (by rw [he]; exact hgo))) hold
end
section
variable {α : Type} {enc : α → Value} {h1 : ∀ x, (enc x).oneCell' = true} {e base g o n cap : Nat} {ok : Nat → Prop} {W : World} {xs : List α}
theorem Q_cell (d : α) (h : (scalar enc h1).Q e W base ok (.slice (some ⟨g, o, none⟩) n cap) xs) (i : Int) (h0 : 0 ≤ i) (hi : i < n) : W.cell? ⟨g, o + i.toNat, none⟩ = some (enc (rdOf d xs i)) ∧ W.frozen? ⟨g, o + i.toNat, none⟩ = false := by
  obtain ⟨c, _, hM, hcc, hf⟩ := Q_elem h d i h0 hi
  have hM' : c = [enc (xs.getD i.toNat d)] := hM
  subst hM'
  have h2 := hcc 0 _ rfl
  have h3 := hf 0
  rw [show (scalar enc h1).sz = 1 from rfl, Nat.mul_one, Nat.add_zero] at h2 h3
  exact ⟨h2, h3⟩
theorem Q_putg (h : (scalar enc h1).Q e W base ok (.slice (some ⟨g, o, none⟩) n cap) xs) (i : Int) (h0 : 0 ≤ i) (hi : i < n) (x : α) : (scalar enc h1).Q e (W.setCell ⟨g, o + i.toNat, none⟩ (enc x)) base ok (.slice (some ⟨g, o, none⟩) n cap) (xs.set i.toNat x) ∧ W.grownBy (W.setCell ⟨g, o + i.toNat, none⟩ (enc x)) (some g) := by
  have hp : 0 < xs.length := by have := (Q_reads' h).1; omega
  obtain ⟨c, hcl, _, hcc, _⟩ := Q_elem h (xs[0]'hp) i h0 hi
  have h2 := Q_seg h i h0 hi (c := c) (seg := [enc x]) (j := 0) (okp := fun _ => False) (x' := x) hcl hcc (Nat.le_refl 1) (by
    have hl : c.length = 1 := hcl
    show c.take 0 ++ [enc x] ++ c.drop (0 + 1) = [enc x]
    rw [List.drop_eq_nil_of_le (by omega)]
    rfl) (fun _ hk => hk.elim)
  rw [show (scalar enc h1).sz = 1 from rfl, Nat.mul_one, Nat.add_zero] at h2
  exact h2
end
end Kd
end Go.Proofs.YtkganedlhcepfaaW.PrintWords

/- Small laws of the walk and of numbers that the contracts share; no program in sight. -/
set_option linter.unusedVariables false
set_option linter.unusedSimpArgs false
namespace Go.Proofs.Ytkganedlhcepfaa.Pr
open Go.RowKit Go.Proofs.YtkganedlhcepfaaW.PrintWords Go.Proofs.YtkganedlhcepfaaW.PrintLast Go.Proofs.YtkganedlhcepfaaW.PrintMore
open Go.Proofs.Ytkganedlhcepfaa.Sp
open Go.Maps
attribute [go_sem high] unary_xor_u16
/-! ### '[]byte(s)': the new row is as a row of the call's own, but for the mark behind it -/
def numsOf (s : ByteArray) : List Int := s.data.toList.map fun b => (b.toNat : Int)
theorem numsOf_length (s : ByteArray) : (numsOf s).length = s.size := by simp [numsOf]
theorem nums_set' (k : IntKind) (xs : List Int) (i : Nat) (x : Int) : nums k (xs.set i x) = (nums k xs).set i (.int k x) := by simp [nums, List.map_set]
namespace Kb
section
variable {d : Kd Int} {e : Nat} {w w1 W : World} {base : Nat} {ok ok' : Nat → Prop} {v : Value} {xs : List Int}
theorem Q_mono (h : Q d e w base ok v xs) (hok : ∀ k, ok k → ok' k) : Q d e w base ok' v xs := ⟨fun k hk => hok k (h.1 k hk), h.2⟩
theorem Q_lt (h : Q d e w base ok v xs) : ∀ k, v.ownBlock = some k → k < w.heap.size := by
  obtain ⟨_, g, cap, cur, rfl, _, hh, _⟩ := h
  intro k hk
  have : g = k := by simpa [Value.ownBlock] using hk
  subst this
  exact (Array.getElem?_eq_some_iff.1 hh).1
theorem Q_base (h : Q d e w base ok v xs) : ∀ k, v.ownBlock = some k → base ≤ k := by
  obtain ⟨_, g, cap, cur, rfl, hb, hh, _⟩ := h
  intro k hk
  have : g = k := by simpa [Value.ownBlock] using hk
  subst this
  exact hb
theorem Q_bound (h : Q d e w base ok v xs) : Q d e w base (fun k => ok k ∧ base ≤ k ∧ k < w.heap.size ∧ True) v xs := ⟨fun k hk => ⟨h.1 k hk, Q_base h k hk, Q_lt h k hk, trivial⟩, h.2⟩
theorem Q_move (h : Q d e w base ok v xs) (hm : ∀ k, ok k → w1.heap[k]? = w.heap[k]?) : Q d e w1 base ok v xs := by
  obtain ⟨h0, g, cap, cur, rfl, hb, hh, r⟩ := h
  exact ⟨h0, g, cap, cur, rfl, hb, (hm g (h0 g rfl)).trans hh, r⟩
theorem Q_lower {base' : Nat} (h : Q d e w base ok v xs) (hb : base' ≤ base) : Q d e w base' ok v xs := by
  obtain ⟨h0, g, cap, cur, hv, hg, r⟩ := h
  exact ⟨h0, g, cap, cur, hv, Nat.le_trans hb hg, r⟩
theorem Q_step (h : Q d e w base ok v xs) (hm : ∀ k, ok k → k < w.heap.size → w1.heap[k]? = w.heap[k]?) : Q d e w1 base ok v xs :=
  Q_mono (Q_move (Q_bound h) (fun k hk => hm k hk.1 hk.2.2.1)) (fun _ hk => hk.1)
theorem Q_below (h : Q d e w base ok v xs) (hb : Below w.heap.size w w1) : Q d e w1 base ok v xs := Q_step h (fun k _ hk => hb.block k hk)
theorem Q_alloc (h : Q d e w base ok v xs) (o : Obj) : Q d e (w.alloc o) base ok v xs := Q_below h (below_alloc (Below.refl _ _) o)
theorem Q_drew (h : Q d e w base ok v xs) : Q d e w.drew base ok v xs := Q_below h (below_drew (Below.refl _ _))
theorem Q_drewN (h : Q d e w base ok v xs) (m : Nat) : Q d e (w.drewN m) base ok v xs := Q_below h (pw_below_drewN (Below.refl _ _) m)
theorem Q_far (h : Q d e w base ok v xs) {p : Addr} (hok : ∀ k, ok k → k ≠ p.block) (u : Value) : Q d e (w.setCell p u) base ok v xs := Q_step h (fun k ho _ => Below.heap_setCell w p u k (hok k ho))
theorem Q_ne (h : Q d e w base ok v xs) {g t : Nat} {cells : Array Value} (hb : w.heap[g]? = some (.cells cells t (0, 0))) (_ : e ≠ t) : some g ≠ v.ownBlock := by
  obtain ⟨_, g', cap, cur, rfl, _, hh, _⟩ := h
  intro he
  have : g = g' := by simpa [Value.ownBlock] using he
  subst this
  rw [hh] at hb
  injection hb with hb
  injection hb with _ _ hb
  injection hb with _ hb
  cases hb
theorem Q_types (h : Q d e w base ok v xs) {g t : Nat} {cells : Array Value} (hb : w.heap[g]? = some (.cells cells t (0, 0))) (ht : ∀ q, q ∈ e :: d.E → q ≠ t) : Q d e w base (fun k => ok k ∧ k ≠ g) v xs :=
  ⟨fun k hk => ⟨h.1 k hk, fun hg => Q_ne h hb (ht e List.mem_cons_self) (by rw [← hg]; exact hk.symm)⟩, h.2⟩
theorem Q_slice (h : Q d e w base ok v xs) : ∃ A c, v = .slice A xs.length c ∧ xs.length ≤ c := by
  obtain ⟨_, g, cap, cur, rfl, _, _, hl, _⟩ := h
  exact ⟨_, cap, rfl, hl⟩
theorem Q_form (h : Q d e w base ok v xs) (_ : 0 < xs.length) : ∃ g cap, v = .slice (some ⟨g, 0, none⟩) xs.length cap ∧ base ≤ g ∧ g < w.heap.size ∧ ∃ cells, w.heap[g]? = some (.cells cells e (cap, cap + 1)) := by
  obtain ⟨_, g, cap, cur, rfl, hb, hh, _⟩ := h
  exact ⟨g, cap, rfl, hb, (Array.getElem?_eq_some_iff.1 hh).1, cur, hh⟩
/-- an element's cell, and that it may be written -/
theorem Q_cell {g n cap : Nat} (z : Int) (h : Q d e W base ok (.slice (some ⟨g, 0, none⟩) n cap) xs) (i : Int) (h0 : 0 ≤ i) (hi : i < n) :
    W.cell? ⟨g, i.toNat, none⟩ = some (.int .u8 (rdOf z xs i)) ∧ W.frozen? ⟨g, i.toNat, none⟩ = false := by
  obtain ⟨_, g', cap', cur, hv, hb, hh, hl, hm, hs, ht⟩ := h
  injection hv with h1 h2 h3
  injection h1 with h1
  injection h1 with h1 h4
  subst h1; subst h2; subst h3
  have hlt : i.toNat < xs.length := by omega
  have hc : cur[i.toNat]? = some (.int .u8 (rdOf z xs i)) := by
    have h5 : (cur.toList.take xs.length)[i.toNat]? = (nums .u8 xs)[i.toNat]? := by rw [ht]
    rw [List.getElem?_take, if_pos hlt, Array.getElem?_toList] at h5
    rw [h5]
    simp [nums, rdOf, List.getElem?_eq_getElem hlt, List.getD_eq_getElem?_getD]
  constructor
  · simp only [World.cell?, hh]; exact hc
  · simp only [World.frozen?, hh]; simp; omega
theorem Q_putg {g n cap : Nat} (h : Q d e W base ok (.slice (some ⟨g, 0, none⟩) n cap) xs) (i : Int) (h0 : 0 ≤ i) (hi : i < n) (x : Int) :
    Q d e (W.setCell ⟨g, i.toNat, none⟩ (.int .u8 x)) base ok (.slice (some ⟨g, 0, none⟩) n cap) (xs.set i.toNat x) ∧ True := by
  obtain ⟨hk, g', cap', cur, hv, hb, hh, hl, hm, hs, ht⟩ := h
  injection hv with h1 h2 h3
  injection h1 with h1
  injection h1 with h1 h4
  subst h1; subst h2; subst h3
  refine ⟨⟨hk, g, cap, cur.setIfInBounds i.toNat (.int .u8 x), by rw [List.length_set], hb, ?_, by rw [List.length_set]; exact hl, hm, by simpa using hs, ?_⟩, trivial⟩
  · simp [World.setCell, Array.getElem?_modify, hh]
  · rw [List.length_set]
    rw [Array.toList_setIfInBounds, nums_set', ← ht]
    apply List.ext_getElem?
    intro j
    simp only [List.getElem?_take, List.getElem?_set, List.length_take, Array.length_toList]
    by_cases hj : j < xs.length
    · rw [if_pos hj, if_pos hj]
      by_cases hij : i.toNat = j
      · rw [if_pos hij, if_pos hij, if_pos (by omega), if_pos (by omega)]
      · rw [if_neg hij, if_neg hij]
    · rw [if_neg hj, if_neg hj]
      by_cases hij : i.toNat = j
      · omega
      · rw [if_neg hij]
theorem Q_reads' {A : Option Addr} {n c : Nat} (h : Q (Kd.int .u8) e w base ok (.slice A n c) xs) : n = xs.length ∧ n ≤ c ∧ (Kd.int .u8).C w A xs.length xs := by
  have h' := h
  obtain ⟨_, g, cap, cur, hv, hb, hh, hl, hm, hs, ht⟩ := h'
  injection hv with h1 h2 h3
  subst h1; subst h2; subst h3
  refine ⟨rfl, hl, rfl, Nat.le_trans hl hm, fun hp => ⟨_, rfl, fun j p hj => ⟨[.int .u8 p], rfl, rfl, fun i u hu => ?_⟩⟩⟩
  have hj' := (List.getElem?_eq_some_iff.1 hj).1
  have hq := (Q_cell 0 h (j : Int) (by omega) (by omega)).1
  match i, hu with
  | 0, hu =>
    simp only [List.getElem?_cons_zero, Option.some.injEq] at hu
    subst hu
    have e1 : rdOf 0 xs (j : Int) = p := by simp [rdOf, List.getD_eq_getElem?_getD, hj]
    rw [e1] at hq
    show w.cell? ((⟨g, 0, none⟩ : Addr).add (j * 1 + 0)) = _
    have ha : (⟨g, 0, none⟩ : Addr).add (j * 1 + 0) = ⟨g, ((j : Int)).toNat, none⟩ := by unfold Addr.add; split <;> simp_all
    rw [ha]; exact hq
theorem Q_string {P : Program} {src dst e' : TypeId} (hs : P.underlying src = some (.slice e')) (he : P.underlying e' = some (.int .u8)) (hd : P.underlying dst = some .string)
    (h : Q d e w base ok v xs) : (convert src dst v).run P w = .ok (.string (strOfNums xs)) w := by
  have h' := h
  obtain ⟨_, g, cap, cur, rfl, hb, hh, hl, hm, hsz, ht⟩ := h'
  refine run_convert_bytes_arg w src e' hs he g 0 xs.length cap xs rfl (fun i hi => ?_) dst hd
  have hq := (Q_cell 0 h (i : Int) (by omega) (by omega)).1
  have e1 : rdOf 0 xs (i : Int) = xs.getD i 0 := by simp [rdOf]
  rw [e1] at hq
  simpa using hq
section
variable {P : Program} {ops : Array Oper} {rest : List Oper} {o : Oper} {a : Act} {Q' : Exit → Act → World → Prop}
theorem Q_conv (d : Kd Int) {W : World} (e : Nat) (hgd : o.guard = none) {N : Tmp} (_hd : o.dst = some N) (src t : TypeId) (x : Operand) (ho : o.op = .convert src t x) (s : ByteArray) (hx : a.eval x = .string s)
    {u : TypeDesc} (hs : P.underlying src = some u) (ht : P.underlying t = some (.slice e)) (he : P.underlying e = some (.int .u8)) {ok : Nat → Prop} (hfresh : ok W.heap.size) (hl : s.size ≤ 281474976710656)
    (h : ∀ v1 w1, Q d e w1 W.heap.size ok v1 (numsOf s) → Below W.heap.size W w1 → True → (∃ b, v1.ownBlock = some b ∧ W.heap.size ≤ b) → wpList P ops Q' rest (a.put o.dst v1) w1) : wpList P ops Q' (o :: rest) a W := by
  have hg := grownCap_ge W s.size 0 e
  have hz : (Lib.bytesCells W e s).size = grownCap W s.size 0 e := by
    have : s.data.size = s.size := rfl
    simp [Lib.bytesCells]; omega
  refine Kd.event_run hgd (v := .slice (some ⟨W.heap.size, 0, none⟩) s.size (grownCap W s.size 0 e)) (w1 := Lib.bytesWorld W e s) ?_ (h _ _ ⟨fun k hk => ?_, W.heap.size, grownCap W s.size 0 e, Lib.bytesCells W e s, by rw [numsOf_length], Nat.le_refl _, ?_, by rw [numsOf_length]; exact hg, grownCap_le_maxLen W _ _ e (by unfold maxLen; omega), hz, ?_⟩ ?_ trivial ⟨W.heap.size, by simp [Value.ownBlock], Nat.le_refl _⟩)
  · have hr := Lib.run_convert_string_bytes (P := P) W src t e s hs ht he
    simp [execOp, ho, hx, hr]
  · have : W.heap.size = k := by simpa [Value.ownBlock] using hk
    subst this
    exact hfresh
  · rw [Lib.bytesWorld_at_new, hz]
  · rw [numsOf_length]
    have h1 : s.data.toList.length = s.size := by simp
    simp only [Lib.bytesCells, Array.toList_append, Array.toList_map]
    rw [List.take_left' (by rw [List.length_map]; exact h1)]
    simp [nums, numsOf]
  · unfold Lib.bytesWorld
    exact Lib.below_freeze (below_alloc (below_drew (Below.refl _ _)) _) (Nat.le_refl _) _
end
end
end Kb
end Go.Proofs.Ytkganedlhcepfaa.Pr

/- Small words on numbers for the plain statements: what a number of its kind is, where nothing wraps, how bits are sums. -/
set_option linter.unusedVariables false
set_option linter.unusedSimpArgs false
namespace Go.Proofs.Ytkganedlhcepfaa.Lem
open Go.RowKit Go.Proofs.YtkganedlhcepfaaW.PrintWords Go.Proofs.YtkganedlhcepfaaW.PrintMore

theorem td {n : Int} (k : Int) (h0 : 0 ≤ n) : Int.tdiv n k = n / k := Int.tdiv_eq_ediv_of_nonneg h0
/-! ### checks of segments -/
section
open Go.Proofs.Ytkganedlhcepfaa.Sp
theorem put2_mid {l : List UInt8} {k : Nat} {n : Int} (h : k + 2 ≤ l.length) : ((put2 l k n).drop k).take 2 = beBytes 2 n := by
  have e : (l.take k).length = k := by rw [List.length_take]; omega
  unfold put2; rw [List.append_assoc, List.drop_left' e, List.take_left' (by rw [beBytes_length])]
theorem psum_put2 {p a b : Int} {l : List UInt8} {k : Nat} {n : Int} (hk : k % 2 = 0) (h : k + 2 ≤ l.length) (h0 : 0 ≤ n) (h1 : n ≤ 65535) :
    psum p a b (put2 l k n) = fold16 (hsum p a b l.length + (wsum (wl (l.take k)) + wsum (wl (l.drop (k + 2)))) + n) := by
  unfold psum
  rw [put2_length h, wsum_put2 hk h h0 h1]
  congr 1; omega
theorem psum_filled {p a b : Int} {l : List UInt8} {k : Nat} (hp : (place p).2 = true) (ha : 0 ≤ a ∧ a ≤ 4294967295) (hb : 0 ≤ b ∧ b ≤ 4294967295) (hk : k % 2 = 0) (h : k + 2 ≤ l.length) :
    psum p a b (put2 l k (pnum p a b (put2 l k 0))) = 65535 := by
  have hn := pnum_bounds (s := put2 l k 0) hp ha hb
  have hh := hsum_bounds (n := (l.length : Int)) hp ha hb
  have w1 := (wsum_bounds (wl (l.take k))).1
  have w2 := (wsum_bounds (wl (l.drop (k + 2)))).1
  rw [psum_put2 hk h hn.1 hn.2]
  unfold pnum
  rw [psum_put2 hk h (by decide) (by decide)]
  unfold fold16
  (repeat' split) <;> omega
end
/-! ### one byte another one -/
section
open Go.Proofs.Ytkganedlhcepfaa.Sp Go.Proofs.Ytkganedlhcepfaa.Pr
theorem bl_turned (s : ByteArray) (j : Nat) (v : Int) : bl (strOfNums ((numsOf s).set j v)) = (bl s).set j (UInt8.ofNat v.toNat) := by
  show ((numsOf s).set j v).map (fun n => UInt8.ofNat n.toNat) = _
  unfold numsOf
  rw [List.map_set, List.map_map]
  congr 1
  have e : ((fun n : Int => UInt8.ofNat n.toNat) ∘ fun b : UInt8 => (b.toNat : Int)) = id := by
    funext b; simp
  rw [e, List.map_id]; rfl
theorem rd_numsOf (s : ByteArray) (j : Nat) (h : j < (bl s).length) : rd (numsOf s) (j : Int) = (((bl s)[j]).toNat : Int) := by
  have h' : j < s.data.size := by simpa using h
  unfold rd numsOf bl
  rw [Int.toNat_natCast, List.getD_eq_getElem?_getD, List.getElem?_map, List.getElem?_eq_getElem (by simpa using h)]
  rfl
theorem wsum_nil : wsum (wl []) = 0 := rfl
theorem wsum_one (x : UInt8) : wsum (wl [x]) = (x.toNat : Int) * 256 := by
  have e0 : (0 : UInt8).toNat = 0 := rfl
  have e : wl [x] = wl [x, 0] := by rw [wl_two, e0, Nat.add_zero]; rfl
  rw [e, wsum_two, wsum_nil]; show (x.toNat : Int) * 256 + 0 + 0 = _; omega
theorem wsum_set (l : List UInt8) : ∀ (i : Nat) (h : i < l.length) (b : UInt8), wsum (wl (l.set i b)) = wsum (wl l) + ((b.toNat : Int) - ((l[i]'h).toNat : Int)) * (if i % 2 = 0 then 256 else 1) := by
  induction l using wl.induct with
  | case1 => intro i h; simp at h
  | case2 x =>
    intro i h b
    obtain rfl : i = 0 := by simp at h; omega
    show wsum (wl [b]) = wsum (wl [x]) + ((b.toNat : Int) - (x.toNat : Int)) * 256
    rw [wsum_one, wsum_one]; omega
  | case3 x y r ih =>
    intro i h b
    match i, h with
    | 0, h =>
      show wsum (wl (b :: y :: r)) = wsum (wl (x :: y :: r)) + ((b.toNat : Int) - (x.toNat : Int)) * 256
      rw [wsum_two, wsum_two]; omega
    | 1, h =>
      show wsum (wl (x :: b :: r)) = wsum (wl (x :: y :: r)) + ((b.toNat : Int) - (y.toNat : Int)) * 1
      rw [wsum_two, wsum_two]; omega
    | i + 2, h =>
      have h' : i < r.length := by simpa using h
      show wsum (wl (x :: y :: r.set i b)) = wsum (wl (x :: y :: r)) + ((b.toNat : Int) - ((r[i]'h').toNat : Int)) * (if (i + 2) % 2 = 0 then 256 else 1)
      rw [wsum_two, wsum_two, ih i h' b, show (i + 2) % 2 = i % 2 by omega]; omega
theorem bit_all : ∀ x : Fin 256, ∀ k : Fin 8, (Go.bits .xor .u8 (x.val : Int) (shl .u8 1 (k.val : Int)) = (x.val : Int) + 2 ^ k.val ∨ Go.bits .xor .u8 (x.val : Int) (shl .u8 1 (k.val : Int)) = (x.val : Int) - 2 ^ k.val) ∧ 0 ≤ Go.bits .xor .u8 (x.val : Int) (shl .u8 1 (k.val : Int)) ∧ Go.bits .xor .u8 (x.val : Int) (shl .u8 1 (k.val : Int)) ≤ 255 := by decide +kernel
/-- a bit of a byte turned: another number, by less than a word -/
theorem bit_turned {x k : Int} (h0 : 0 ≤ x) (h1 : x ≤ 255) (k0 : 0 ≤ k) (k1 : k ≤ 7) : ∃ v : Int, Go.bits .xor .u8 x (shl .u8 1 k) = v ∧ 0 ≤ v ∧ v ≤ 255 ∧ v ≠ x ∧ v - x ≤ 128 ∧ x - v ≤ 128 := by
  have h := bit_all ⟨x.toNat, by omega⟩ ⟨k.toNat, by omega⟩
  have e1 : ((x.toNat : Nat) : Int) = x := by omega
  have e2 : ((k.toNat : Nat) : Int) = k := by omega
  simp only [e1, e2] at h
  have p0 : (0 : Int) < 2 ^ k.toNat := Int.pow_pos (by decide)
  have p1 : (2 : Int) ^ k.toNat ≤ 2 ^ 7 := by exact_mod_cast Nat.pow_le_pow_right (by decide) (by omega)
  refine ⟨_, rfl, h.2.1, h.2.2, ?_⟩
  rcases h.1 with h | h <;> rw [h] <;> omega
end
/-! ### TCP segments -/
section
open Go.Proofs.Ytkganedlhcepfaa.Sp
/-- what stands at 12 tells the header's length -/
theorem tcpSize_head {a b c d e f g : Int} {o : List UInt8} (r : tcpRight a b e f g o = true) (q : List UInt8) (hq : q.take 13 = (tcpHead a b c d e f g o).take 13) : tcpSize q = 20 + o.length := by
  obtain ⟨_, _, _, _, hf, ho, _⟩ := tcpRight_iff.1 r
  have hl : 12 < q.length := by
    have h1 : (q.take 13).length = 13 := by rw [hq]; rfl
    rw [List.length_take] at h1; omega
  have h12 : q[12] = UInt8.ofNat ((4096 * ((20 + (o.length : Int)) / 4) + e) / 256 % 256).toNat := by
    have h2 : (q.take 13)[12]? = ((tcpHead a b c d e f g o).take 13)[12]? := by rw [hq]
    rw [List.getElem?_take, if_pos (by omega), List.getElem?_eq_getElem hl] at h2
    have h3 : ((tcpHead a b c d e f g o).take 13)[12]? = some (UInt8.ofNat ((4096 * ((20 + (o.length : Int)) / 4) + e) / 256 % 256).toNat) := rfl
    rw [h3] at h2
    exact Option.some.inj h2
  unfold tcpSize
  rw [dif_pos hl, h12, UInt8.toNat_ofNat']
  omega
theorem be2_of {n : Int} (h : fits 2 n = true) : beNum (beBytes 2 n) = n := by have := fits2.1 h; exact beNum_beBytes 2 n this.1 (by omega)
end
end Go.Proofs.Ytkganedlhcepfaa.Lem

/- Packets made of their parts: what they are classified as. No program in sight. -/
set_option linter.unusedVariables false
set_option linter.unusedSimpArgs false
set_option linter.unusedSectionVars false
namespace Go.Proofs.Ytkganedlhcepfaa.Frm
open Go.RowKit Go.Proofs.YtkganedlhcepfaaW.PrintWords Go.Proofs.YtkganedlhcepfaaW.PrintMore
open Go.Proofs.Ytkganedlhcepfaa.Sp Go.Proofs.Ytkganedlhcepfaa.Lem

theorem tcpParse_C {a b c d e f g : Int} {o : List UInt8} (r : tcpRight a b e f g o = true) (hc : 0 ≤ c ∧ c ≤ 4294967295) (hd : 0 ≤ d ∧ d ≤ 4294967295) (ck : Int) (t : List UInt8) :
    tcpParse (tcpC a b c d e f g o ck ++ o ++ t) = ⟨a, b, c, d, e, f, g, o, t, 0⟩ := by
  obtain ⟨fa, fb, ff, fg, he, ho, hok⟩ := tcpRight_iff.1 r
  have hs := tcpSize_head r (c := c) (d := d) (tcpC a b c d e f g o ck ++ o ++ t) rfl
  have hl : (tcpC a b c d e f g o ck ++ o ++ t).length = 20 + o.length + t.length := by simp only [List.length_append, tcpC_length]
  have ht : (tcpC a b c d e f g o ck ++ o ++ t).take (20 + o.length) = tcpC a b c d e f g o ck ++ o := List.take_left' (by simp)
  have hd' : (tcpC a b c d e f g o ck ++ o ++ t).drop (20 + o.length) = t := List.drop_left' (by simp)
  have h20 : (tcpC a b c d e f g o ck ++ o).drop 20 = o := List.drop_left' (by simp)
  have fl : fits 2 (4096 * ((20 + (o.length : Int)) / 4) + e) = true := fits2.2 ⟨by omega, by omega⟩
  unfold tcpParse
  rw [dif_neg (by omega), hs, if_neg (by omega), ht, hd', h20, if_pos hok]
  obtain ⟨q, hq⟩ : ∃ q, tcpC a b c d e f g o ck ++ o ++ t = q := ⟨_, rfl⟩
  rw [hq] at hl ⊢
  have e0 : (q.drop 0).take 2 = beBytes 2 a := by rw [← hq]; rfl
  have e2 : (q.drop 2).take 2 = beBytes 2 b := by rw [← hq]; rfl
  have e4 : (q.drop 4).take 4 = beBytes 4 c := by rw [← hq]; rfl
  have e8 : (q.drop 8).take 4 = beBytes 4 d := by rw [← hq]; rfl
  have e12 : (q.drop 12).take 2 = beBytes 2 (4096 * ((20 + (o.length : Int)) / 4) + e) := by rw [← hq]; rfl
  have e14 : (q.drop 14).take 2 = beBytes 2 f := by rw [← hq]; rfl
  have e18 : (q.drop 18).take 2 = beBytes 2 g := by rw [← hq]; rfl
  have g0 := get2 q 0 (by omega)
  have g2 := get2 q 2 (by omega)
  have g4 := get4 q 4 (by omega)
  have g8 := get4 q 8 (by omega)
  have g12 := get2 q 12 (by omega)
  have g14 := get2 q 14 (by omega)
  have g18 := get2 q 18 (by omega)
  rw [e0, be2_of fa] at g0
  rw [e2, be2_of fb] at g2
  rw [e4, be4_of hc] at g4
  rw [e8, be4_of hd] at g8
  rw [e12, be2_of fl] at g12
  rw [e14, be2_of ff] at g14
  rw [e18, be2_of fg] at g18
  have hm : (4096 * ((20 + (o.length : Int)) / 4) + e) % 4096 = e := by omega
  rw [show get q 0 2 = _ from g0, show get q 2 2 = _ from g2, show get q 4 4 = _ from g4, show get q 8 4 = _ from g8, show get q 12 2 = _ from g12, show get q 14 2 = _ from g14, show get q 18 2 = _ from g18]
  simp only [hm]
theorem udpParse_C {a b ck : Int} (t : List UInt8) (ha : fits 2 a = true) (hb : fits 2 b = true) (ht : t.length ≤ 65527) : udpParse (udpC a b (8 + (t.length : Int)) ck ++ t) = (a, b, t, 0) := by
  have hl : (udpC a b (8 + (t.length : Int)) ck ++ t).length = 8 + t.length := by rw [List.length_append, udpC_length]
  unfold udpParse
  rw [udpLen_C t (by omega) (by omega), hl, if_neg (by omega), if_neg (by omega)]
  have e1 : (udpC a b (8 + (t.length : Int)) ck ++ t).take 2 = beBytes 2 a := rfl
  have e2 : ((udpC a b (8 + (t.length : Int)) ck ++ t).drop 2).take 2 = beBytes 2 b := rfl
  have e3 : ((udpC a b (8 + (t.length : Int)) ck ++ t).take (8 + (t.length : Int)).toNat).drop 8 = t := by
    rw [List.take_of_length_le (by rw [hl]; omega)]; exact List.drop_left' (by simp)
  rw [e1, e2, e3, be2_of ha, be2_of hb]
theorem get_udpC {a b n ck : Int} (t : List UInt8) (h : 0 ≤ ck ∧ ck ≤ 65535) : get (udpC a b n ck ++ t) 6 2 = (ck, true) := by
  have e : ((udpC a b n ck ++ t).drop 6).take 2 = beBytes 2 ck := rfl
  have := get2 (udpC a b n ck ++ t) 6 (by rw [List.length_append, udpC_length]; omega)
  rw [e, be2_in h] at this; exact this
/-! ### segments filled -/
theorem pnum_ne {p a b : Int} {s : List UInt8} (hp : p = 17) (ha : 0 ≤ a ∧ a ≤ 4294967295) (hb : 0 ≤ b ∧ b ≤ 4294967295) : pnum p a b s ≠ 0 := by
  subst hp
  have := psum_bounds (p := 17) (s := s) rfl ha hb
  unfold pnum; split <;> omega
theorem verify_any {p x y : Int} {l : List UInt8} {k : Nat} (hp : place p = ((k : Int), true)) (hk : k % 2 = 0) (hc : ∀ c, cov p (put2 l k c) = put2 l k c) (h : k + 2 ≤ l.length) (hx : 0 ≤ x ∧ x ≤ 4294967295) (hy : 0 ≤ y ∧ y ≤ 4294967295) :
    psum p x y (put2 l k (pnum p x y (put2 l k 0))) = 65535 ∧ pverify p x y (put2 l k (pnum p x y (put2 l k 0))) = 0 := by
  have hs := psum_filled (p := p) (l := l) (k := k) (by rw [hp]) hx hy hk h
  refine ⟨hs, ?_⟩
  unfold pverify
  rw [(fill_any hp hk hc h hx hy _).1, hp, if_pos rfl, if_pos rfl, hc, if_pos (Or.inr hs)]
theorem segT_parse {x y a b e : Int} {t : List UInt8} (ha : 0 ≤ a ∧ a ≤ 65535) (hb : 0 ≤ b ∧ b ≤ 65535) (he : 0 ≤ e ∧ e ≤ 63) : tcpParse (segT x y a b e t) = ⟨a, b, 7, 0, e, 9, 0, [], t, 0⟩ := by
  have := tcpParse_C (c := 7) (d := 0) (segT_right ha hb he) (by decide) (by decide) (pnum 6 x y (tcpHead a b 7 0 e 9 0 [] ++ t)) t
  rw [List.append_nil] at this; exact this
theorem segT_sum {x y a b e : Int} {t : List UInt8} (hx : 0 ≤ x ∧ x ≤ 4294967295) (hy : 0 ≤ y ∧ y ≤ 4294967295) : psum 6 x y (segT x y a b e t) = 65535 ∧ pverify 6 x y (segT x y a b e t) = 0 := by
  have h := verify_any (p := 6) (k := 16) (l := tcpHead a b 7 0 e 9 0 [] ++ t) rfl rfl (fun c => cov_six _) (by rw [List.length_append, tcpHead_length]; omega) hx hy
  rw [tcp_put2, tcp_put2] at h
  exact h
theorem segU_parse {x y a b : Int} {z : Bool} {t : List UInt8} (ht : t.length ≤ 65527) (ha : 0 ≤ a ∧ a ≤ 65535) (hb : 0 ≤ b ∧ b ≤ 65535) : udpParse (segU x y a b z t) = (a, b, t, 0) :=
  udpParse_C t (fits2.2 ha) (fits2.2 hb) ht
theorem segU_sum {x y a b : Int} {t : List UInt8} (ht : t.length ≤ 65527) (hx : 0 ≤ x ∧ x ≤ 4294967295) (hy : 0 ≤ y ∧ y ≤ 4294967295) : psum 17 x y (segU x y a b false t) = 65535 ∧ pverify 17 x y (segU x y a b false t) = 0 := by
  have h := verify_any (p := 17) (k := 6) (l := udpHead a b (8 + (t.length : Int)) ++ t) rfl rfl (segU_cov ht) (by rw [List.length_append, udpHead_length]; omega) hx hy
  rw [udp_put2, udp_put2] at h
  exact h
theorem segU_check {x y a b c : Int} {t : List UInt8} (ht : t.length ≤ 65527) (hx : 0 ≤ x ∧ x ≤ 4294967295) (hy : 0 ≤ y ∧ y ≤ 4294967295) : (pcheck 17 x y (udpC a b (8 + (t.length : Int)) c ++ t)).2 = true := by
  have h := (fill_any (p := 17) (k := 6) (l := udpHead a b (8 + (t.length : Int)) ++ t) rfl rfl (segU_cov ht) (by rw [List.length_append, udpHead_length]; omega) hx hy c).1
  rw [udp_put2] at h; rw [h]
theorem segU_zero {x y a b : Int} {t : List UInt8} (ht : t.length ≤ 65527) (hx : 0 ≤ x ∧ x ≤ 4294967295) (hy : 0 ≤ y ∧ y ≤ 4294967295) : pverify 17 x y (segU x y a b true t) = 0 := by
  have h : (get (segU x y a b true t) 6 2).1 = 0 := by
    have := get_udpC (a := a) (b := b) (n := 8 + (t.length : Int)) (ck := 0) t (by decide)
    show (get (udpC a b (8 + (t.length : Int)) 0 ++ t) 6 2).1 = 0
    rw [this]
  unfold pverify
  rw [if_pos (show (place 17).2 = true from rfl), if_pos (show (pcheck 17 x y (segU x y a b true t)).2 = true from segU_check (c := 0) ht hx hy), if_pos (Or.inl ⟨rfl, h⟩)]
theorem segU_verify {x y a b : Int} {z : Bool} {t : List UInt8} (ht : t.length ≤ 65527) (hx : 0 ≤ x ∧ x ≤ 4294967295) (hy : 0 ≤ y ∧ y ≤ 4294967295) : pverify 17 x y (segU x y a b z t) = 0 := by
  cases z
  · exact (segU_sum ht hx hy).2
  · exact segU_zero ht hx hy
/-- what a segment says of itself -/
theorem segOf_ends {p x y a b e : Int} {z : Bool} {t : List UInt8} (hp : p = 6 ∨ p = 17) (ht : t.length ≤ 65527) (ha : 0 ≤ a ∧ a ≤ 65535) (hb : 0 ≤ b ∧ b ≤ 65535) (he : 0 ≤ e ∧ e ≤ 63) : endsOf p (segOf p x y a b e z t) = (a, b, if p = 6 then e else 0, 0) := by
  unfold endsOf segOf
  by_cases h6 : p = 6
  · rw [if_pos h6, if_pos h6, if_pos h6, segT_parse ha hb he]
  · rw [if_neg h6, if_neg h6, if_neg h6, segU_parse ht ha hb]
theorem segOf_verify {p x y a b e : Int} {z : Bool} {t : List UInt8} (hp : p = 6 ∨ p = 17) (ht : t.length ≤ 65527) (hx : 0 ≤ x ∧ x ≤ 4294967295) (hy : 0 ≤ y ∧ y ≤ 4294967295) : pverify p x y (segOf p x y a b e z t) = 0 := by
  unfold segOf
  by_cases h6 : p = 6
  · subst h6; rw [if_pos rfl]; exact (segT_sum hx hy).2
  · obtain rfl : p = 17 := by omega
    rw [if_neg h6]; exact segU_verify ht hx hy
theorem ip_z : (20 + (([] : List UInt8).length : Int)) = 20 := rfl
theorem ipF_parse {id ttl p x y : Int} {s : List UInt8} (hi : 0 ≤ id ∧ id ≤ 65535) (ht : 0 ≤ ttl ∧ ttl ≤ 255) (hp : 0 ≤ p ∧ p ≤ 255) (hx : 0 ≤ x ∧ x ≤ 4294967295) (hy : 0 ≤ y ∧ y ≤ 4294967295) (hs : s.length ≤ 1480) (more : List UInt8) :
    ip4Parse (ipF id ttl p x y s ++ more) = ⟨0, id, 0, 0, ttl, p, x, y, [], s, 0⟩ := by
  have := ip4Parse_full (s := s) (ip_right hi ht hp) hx hy (by rw [ip_z]; omega) more
  rw [ip_z] at this
  exact this
theorem ipF_len {id ttl p x y : Int} {s : List UInt8} (more : List UInt8) : ip4Len (ipF id ttl p x y s ++ more) = 20 := by
  have := (ip4Len_head (t := 0) (i := id) (f := 0) (g := 0) (l := ttl) (p := p) (a := x) (b := y) (o := []) (by decide) (20 + (s.length : Int)) (check (ip4Head 0 id 0 0 ttl p x y [] (20 + (s.length : Int)) 0)) (s ++ more)).1
  rw [ip_z] at this
  unfold ipF ip4Full
  rw [List.append_assoc]; exact this
theorem ipF_tot {id ttl p x y : Int} {s : List UInt8} (hs : s.length ≤ 1480) (more : List UInt8) : ip4Tot (ipF id ttl p x y s ++ more) = 20 + (s.length : Int) := by
  have := ip4Tot_head (t := 0) (i := id) (f := 0) (g := 0) (l := ttl) (p := p) (a := x) (b := y) (o := []) (20 + (s.length : Int)) (check (ip4Head 0 id 0 0 ttl p x y [] (20 + (s.length : Int)) 0)) (by omega) (s ++ more)
  unfold ipF ip4Full
  rw [List.append_assoc]; exact this
/-- a packet of TCP or UDP -/
theorem pkt_plain {ttl p x y a b e : Int} {z : Bool} {t : List UInt8} (hp : p = 6 ∨ p = 17) (ht : t.length ≤ 1400) (hl : 0 ≤ ttl ∧ ttl ≤ 255) (hx : 0 ≤ x ∧ x ≤ 4294967295) (hy : 0 ≤ y ∧ y ≤ 4294967295) (ha : 0 ≤ a ∧ a ≤ 65535) (hb : 0 ≤ b ∧ b ≤ 65535) (he : 0 ≤ e ∧ e ≤ 63) (more : List UInt8) :
    pkt (ipF 5 ttl p x y (segOf p x y a b e z t) ++ more) = ⟨1, 20, 20 + ((segOf p x y a b e z t).length : Int), p, x, y, a, b, if p = 6 then e else 0, ttl, x, y, 0, 0, 0⟩ := by
  have hsl : (segOf p x y a b e z t).length ≤ 1480 := by rw [segOf_length]; split <;> omega
  unfold pkt
  rw [ipF_parse (by decide) hl (by omega) hx hy hsl more, ipF_len, ipF_tot hsl]
  unfold pktOf
  rw [if_pos rfl, if_pos ⟨rfl, rfl⟩]
  simp only
  rw [if_neg (by omega), if_pos hp]
  unfold pktPlain plainErr
  simp only
  rw [segOf_ends hp (by omega) ha hb he]
  simp only
  rw [if_pos trivial, segOf_verify hp (by omega) hx hy, if_pos rfl]
section
variable {k x y a b e tt u v : Int} {z : Bool} {t : List UInt8} (hx : 0 ≤ x ∧ x ≤ 4294967295) (hy : 0 ≤ y ∧ y ≤ 4294967295) (ha : 0 ≤ a ∧ a ≤ 65535) (hb : 0 ≤ b ∧ b ≤ 65535) (he : 0 ≤ e ∧ e ≤ 255) (ht : 0 ≤ tt ∧ tt ≤ 255) (hu : 0 ≤ u ∧ u ≤ 4294967295) (hv : 0 ≤ v ∧ v ≤ 4294967295)
include hx hy ha hb he ht
theorem pkt_frame_plain (hk : k % 4 < 2) (more : List UInt8) : pkt (frame k x y a b e tt t z u v ++ more) = ⟨1, 20, ((frame k x y a b e tt t z u v).length : Int), protoOf k, x, y, a, b, if protoOf k = 6 then e % 64 else 0, tt, x, y, 0, 0, 0⟩ := by
  have hs := seg_le (protoOf k) x y a b (e % 64) z t
  rw [frame_plain hx hy ha hb he ht hk, pkt_plain (protoOf_or k) (by rw [List.length_take]; omega) ht hx hy ha hb (by omega) more, ipF_length]
  simp only [Pkt.mk.injEq, and_true, true_and]; omega
include hu hv
end
/-! ### a byte of the body another one -/
theorem psum_turned {p a b : Int} {l : List UInt8} {i : Nat} (h : i < l.length) {v : Int} (v0 : 0 ≤ v) (v1 : v ≤ 255) (hne : v ≠ ((l[i]'h).toNat : Int)) (hp : (place p).2 = true) (ha : 0 ≤ a ∧ a ≤ 4294967295) (hb : 0 ≤ b ∧ b ≤ 4294967295) (hs : psum p a b l = 65535) :
    psum p a b (l.set i (UInt8.ofNat v.toNat)) ≠ 65535 := by
  have hh := hsum_bounds (n := (l.length : Int)) hp ha hb
  have w0 := (wsum_bounds (wl l)).1
  have w1 := (wsum_bounds (wl (l.set i (UInt8.ofNat v.toNat)))).1
  have hx := (l[i]'h).toNat_lt
  have e := wsum_set l i h (UInt8.ofNat v.toNat)
  have ev : ((UInt8.ofNat v.toNat).toNat : Int) = v := by rw [UInt8.toNat_ofNat']; omega
  rw [ev] at e
  unfold psum fold16 at hs ⊢
  rw [List.length_set]
  by_cases hp : i % 2 = 0
  · rw [if_pos hp] at e
    split at hs <;> split <;> omega
  · rw [if_neg hp] at e
    split at hs <;> split <;> omega
theorem verify_bad {p x y c : Int} {l : List UInt8} {k : Nat} (hp : place p = ((k : Int), true)) (hk : k % 2 = 0) (hc : ∀ c, cov p (put2 l k c) = put2 l k c) (h : k + 2 ≤ l.length) (hx : 0 ≤ x ∧ x ≤ 4294967295) (hy : 0 ≤ y ∧ y ≤ 4294967295) (hc0 : 0 ≤ c ∧ c ≤ 65535) (hne : p = 17 → c ≠ 0) (hs : psum p x y (put2 l k c) ≠ 65535) : pverify p x y (put2 l k c) = 7 := by
  have hg : (get (put2 l k c) (k : Int) 2).1 = c := by rw [get2 _ k (by rw [put2_length h]; exact h), put2_mid h, be2_in hc0]
  unfold pverify
  rw [(fill_any hp hk hc h hx hy c).1, hp, if_pos rfl, if_pos rfl, hc, hg, if_neg]
  rintro (⟨h1, h2⟩ | h2)
  · exact hne h1 h2
  · exact hs h2
theorem pkt_ver {ttl p x y : Int} {s : List UInt8} (hp : p = 6 ∨ p = 17) (hl : 0 ≤ ttl ∧ ttl ≤ 255) (hx : 0 ≤ x ∧ x ≤ 4294967295) (hy : 0 ≤ y ∧ y ≤ 4294967295) (hs : s.length ≤ 1480) (he : (endsOf p s).2.2.2 = 0) (hv : pverify p x y s = 7) : (pkt (ipF 5 ttl p x y s)).e = 7 := by
  have h1 := ipF_parse (id := 5) (ttl := ttl) (p := p) (x := x) (y := y) (s := s) (by decide) hl (by omega) hx hy hs []
  rw [List.append_nil] at h1
  unfold pkt
  rw [h1]
  unfold pktOf
  rw [if_pos rfl, if_pos ⟨rfl, rfl⟩]
  simp only
  rw [if_neg (by omega), if_pos hp]
  unfold pktPlain plainErr
  simp only
  rw [he, if_pos rfl, hv, if_neg (by decide)]
  rfl
/-- with a byte of its body another one a packet is refused for its sum -/
theorem seg_turned {p x y a b e : Int} {t : List UInt8} (hp : p = 6 ∨ p = 17) (ht : t.length ≤ 1400) (hx : 0 ≤ x ∧ x ≤ 4294967295) (hy : 0 ≤ y ∧ y ≤ 4294967295) (ha : 0 ≤ a ∧ a ≤ 65535) (hb : 0 ≤ b ∧ b ≤ 65535) (he : 0 ≤ e ∧ e ≤ 63) {i : Nat} (hi : i < t.length) (j : Nat) (hj : j + t.length = (segOf p x y a b e false t).length + i) (hjs : j < (segOf p x y a b e false t).length) {v : Int} (v0 : 0 ≤ v) (v1 : v ≤ 255) (hne : v ≠ (((segOf p x y a b e false t)[j]'hjs).toNat : Int)) :
    (endsOf p ((segOf p x y a b e false t).set j (UInt8.ofNat v.toNat))).2.2.2 = 0 ∧ pverify p x y ((segOf p x y a b e false t).set j (UInt8.ofNat v.toNat)) = 7 := by
  have hpl : (place p).2 = true := by rcases hp with rfl | rfl <;> rfl
  by_cases h6 : p = 6
  · subst h6
    have hS : segOf 6 x y a b e false t = segT x y a b e t := by unfold segOf; rw [if_pos rfl]
    have hjs2 : j < (segT x y a b e t).length := by rw [← hS]; exact hjs
    rw [show (segOf 6 x y a b e false t)[j]'hjs = (segT x y a b e t)[j]'hjs2 from List.getElem_of_eq hS _] at hne
    rw [hS] at hj ⊢
    have hsum := (segT_sum (x := x) (y := y) (a := a) (b := b) (e := e) (t := t) hx hy).1
    have ht2 := psum_turned hjs2 v0 v1 hne hpl hx hy hsum
    clear hne hjs
    rw [segT_length] at hj hjs2
    have hset : (segT x y a b e t).set j (UInt8.ofNat v.toNat) = tcpC a b 7 0 e 9 0 [] (pnum 6 x y (tcpHead a b 7 0 e 9 0 [] ++ t)) ++ t.set (j - 20) (UInt8.ofNat v.toNat) := by
      unfold segT; rw [List.set_append_right _ _ (by rw [tcpC_length]; omega), tcpC_length]
    rw [hset] at ht2 ⊢
    have hn := pnum_bounds (p := 6) (s := tcpHead a b 7 0 e 9 0 [] ++ t) rfl hx hy
    constructor
    · unfold endsOf
      rw [if_pos rfl]
      have := tcpParse_C (c := 7) (d := 0) (segT_right ha hb he) (by decide) (by decide) (pnum 6 x y (tcpHead a b 7 0 e 9 0 [] ++ t)) (t.set (j - 20) (UInt8.ofNat v.toNat))
      rw [List.append_nil] at this
      rw [this]
    · rw [← tcp_put2] at ht2 ⊢
      exact verify_bad (k := 16) rfl rfl (fun c => cov_six _) (by rw [List.length_append, tcpHead_length]; omega) hx hy hn (fun h => absurd h (by decide)) ht2
  · obtain rfl : p = 17 := by omega
    have hS : segOf 17 x y a b e false t = segU x y a b false t := by unfold segOf; rw [if_neg (by decide)]
    have hjs2 : j < (segU x y a b false t).length := by rw [← hS]; exact hjs
    rw [show (segOf 17 x y a b e false t)[j]'hjs = (segU x y a b false t)[j]'hjs2 from List.getElem_of_eq hS _] at hne
    rw [hS] at hj ⊢
    have hsum := (segU_sum (x := x) (y := y) (a := a) (b := b) (t := t) (by omega) hx hy).1
    have ht2 := psum_turned hjs2 v0 v1 hne hpl hx hy hsum
    clear hne hjs
    rw [segU_length] at hj hjs2
    obtain ⟨ck, hck⟩ : ∃ ck, pnum 17 x y (udpHead a b (8 + (t.length : Int)) ++ t) = ck := ⟨_, rfl⟩
    have hn := pnum_bounds (p := 17) (s := udpHead a b (8 + (t.length : Int)) ++ t) rfl hx hy
    have hn0 := pnum_ne (p := 17) (s := udpHead a b (8 + (t.length : Int)) ++ t) rfl hx hy
    rw [hck] at hn hn0
    have hset : (segU x y a b false t).set j (UInt8.ofNat v.toNat) = udpC a b (8 + ((t.set (j - 8) (UInt8.ofNat v.toNat)).length : Int)) ck ++ t.set (j - 8) (UInt8.ofNat v.toNat) := by
      unfold segU; rw [if_neg (by decide), hck, List.set_append_right _ _ (by rw [udpC_length]; omega), udpC_length, List.length_set]
    rw [hset] at ht2 ⊢
    have hl' : (t.set (j - 8) (UInt8.ofNat v.toNat)).length ≤ 65527 := by rw [List.length_set]; omega
    generalize t.set (j - 8) (UInt8.ofNat v.toNat) = t' at *
    constructor
    · unfold endsOf
      rw [if_neg (by decide), udpParse_C t' (fits2.2 ha) (fits2.2 hb) hl']
    · rw [← udp_put2] at ht2 ⊢
      exact verify_bad (k := 6) rfl rfl (segU_cov hl') (by rw [List.length_append, udpHead_length]; omega) hx hy hn (fun _ => hn0) ht2
theorem ipF_set {id ttl p x y : Int} {s : List UInt8} (j : Nat) (u : UInt8) : (ipF id ttl p x y s).set (20 + j) u = ipF id ttl p x y (s.set j u) := by
  unfold ipF
  rw [List.set_append_right _ _ (by rw [ip4Full_length]; simp), ip4Full_length, List.length_nil, show 20 + j - (20 + 0) = j by omega, List.length_set]
end Go.Proofs.Ytkganedlhcepfaa.Frm

