-- trimmed by trims.py
/- Small words on numbers for the plain statements: what a number of its kind is, where nothing wraps, how bits are sums. -/
import Derived.Test.YtkdmdnihkhhpiaaPr0
set_option linter.unusedVariables false
set_option linter.unusedSimpArgs false
namespace Go.Proofs.Ytkdmdnihkhhpiaa.Lem
open Go.RowKit Go.Proofs.YtkdmdnihkhhpiaaW.PrintWords Go.Proofs.YtkdmdnihkhhpiaaW.PrintMore

theorem wf_i64 {n : Int} (h : (Lit.int .i64 n).wf = true) : -9223372036854775808 ≤ n ∧ n ≤ 9223372036854775807 := by
  simp [Lit.wf, IntKind.min, IntKind.max, IntKind.bits, IntKind.signed] at h; omega
theorem wf_u32 {n : Int} (h : (Lit.int .u32 n).wf = true) : 0 ≤ n ∧ n ≤ 4294967295 := by
  simp [Lit.wf, IntKind.min, IntKind.max, IntKind.bits, IntKind.signed] at h; omega
theorem w64 {n : Int} (h0 : -9223372036854775808 ≤ n) (h1 : n ≤ 9223372036854775807) : wrap64 n = n := by unfold wrap64; omega
theorem tm {n : Int} (k : Int) (h0 : 0 ≤ n) : Int.tmod n k = n % k := Int.tmod_eq_emod_of_nonneg h0
theorem td {n : Int} (k : Int) (h0 : 0 ≤ n) : Int.tdiv n k = n / k := Int.tdiv_eq_ediv_of_nonneg h0
/-! ### checks of segments -/
section
open Go.Proofs.Ytkdmdnihkhhpiaa.Sp
end
/-! ### one byte another one -/
section
open Go.Proofs.Ytkdmdnihkhhpiaa.Sp Go.Proofs.Ytkdmdnihkhhpiaa.Pr
theorem rd_numsOf (s : ByteArray) (j : Nat) (h : j < (bl s).length) : rd (numsOf s) (j : Int) = (((bl s)[j]).toNat : Int) := by
  have h' : j < s.data.size := by simpa using h
  unfold rd numsOf bl
  rw [Int.toNat_natCast, List.getD_eq_getElem?_getD, List.getElem?_map, List.getElem?_eq_getElem (by simpa using h)]
  rfl
theorem wsum_nil : wsum (wl []) = 0 := rfl
theorem wsum_one (x : UInt8) : wsum (wl [x]) = (x.toNat : Int) * 256 := by
  have e0 : (0 : UInt8).toNat = 0 := rfl
  have e : wl [x] = wl [x, 0] := by rw [wl_two, e0, Nat.add_zero]; rfl
  rw [e, wsum_two, wsum_nil]; show (x.toNat : Int) * 256 + 0 + 0 = _; omega
theorem wsum_set (l : List UInt8) : ∀ (i : Nat) (h : i < l.length) (b : UInt8), wsum (wl (l.set i b)) = wsum (wl l) + ((b.toNat : Int) - ((l[i]'h).toNat : Int)) * (if i % 2 = 0 then 256 else 1) := by
  induction l using wl.induct with
  | case1 => intro i h; simp at h
  | case2 x =>
    intro i h b
    obtain rfl : i = 0 := by simp at h; omega
    show wsum (wl [b]) = wsum (wl [x]) + ((b.toNat : Int) - (x.toNat : Int)) * 256
    rw [wsum_one, wsum_one]; omega
  | case3 x y r ih =>
    intro i h b
    match i, h with
    | 0, h =>
      show wsum (wl (b :: y :: r)) = wsum (wl (x :: y :: r)) + ((b.toNat : Int) - (x.toNat : Int)) * 256
      rw [wsum_two, wsum_two]; omega
    | 1, h =>
      show wsum (wl (x :: b :: r)) = wsum (wl (x :: y :: r)) + ((b.toNat : Int) - (y.toNat : Int)) * 1
      rw [wsum_two, wsum_two]; omega
    | i + 2, h =>
      have h' : i < r.length := by simpa using h
      show wsum (wl (x :: y :: r.set i b)) = wsum (wl (x :: y :: r)) + ((b.toNat : Int) - ((r[i]'h').toNat : Int)) * (if (i + 2) % 2 = 0 then 256 else 1)
      rw [wsum_two, wsum_two, ih i h' b, show (i + 2) % 2 = i % 2 by omega]; omega
end
/-! ### TCP segments -/
section
open Go.Proofs.Ytkdmdnihkhhpiaa.Sp
end
end Go.Proofs.Ytkdmdnihkhhpiaa.Lem
