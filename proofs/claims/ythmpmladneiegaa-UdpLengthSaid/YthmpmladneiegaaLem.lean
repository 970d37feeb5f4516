/- Small words on numbers for the plain statements: what a number of its kind is, where nothing wraps, how bits are sums. -/
import Derived.Test.YthmpmladneiegaaPr0
set_option linter.unusedVariables false
set_option linter.unusedSimpArgs false
namespace Go.Proofs.Ythmpmladneiegaa.Lem
open Go.RowKit Go.Proofs.YthmpmladneiegaaW.PrintWords Go.Proofs.YthmpmladneiegaaW.PrintMore

theorem wf_i64 {n : Int} (h : (Lit.int .i64 n).wf = true) : -9223372036854775808 ≤ n ∧ n ≤ 9223372036854775807 := by
  simp [Lit.wf, IntKind.min, IntKind.max, IntKind.bits, IntKind.signed] at h; omega
theorem wf_u8 {n : Int} (h : (Lit.int .u8 n).wf = true) : 0 ≤ n ∧ n ≤ 255 := by
  simp [Lit.wf, IntKind.min, IntKind.max, IntKind.bits, IntKind.signed] at h; omega
theorem wf_u16 {n : Int} (h : (Lit.int .u16 n).wf = true) : 0 ≤ n ∧ n ≤ 65535 := by
  simp [Lit.wf, IntKind.min, IntKind.max, IntKind.bits, IntKind.signed] at h; omega
theorem wf_u32 {n : Int} (h : (Lit.int .u32 n).wf = true) : 0 ≤ n ∧ n ≤ 4294967295 := by
  simp [Lit.wf, IntKind.min, IntKind.max, IntKind.bits, IntKind.signed] at h; omega
theorem wf_u64 {n : Int} (h : (Lit.int .u64 n).wf = true) : 0 ≤ n ∧ n ≤ 18446744073709551615 := by
  simp [Lit.wf, IntKind.min, IntKind.max, IntKind.bits, IntKind.signed] at h; omega
theorem w64 {n : Int} (h0 : -9223372036854775808 ≤ n) (h1 : n ≤ 9223372036854775807) : wrap64 n = n := by unfold wrap64; omega
theorem w16 {n : Int} (h0 : 0 ≤ n) (h1 : n ≤ 65535) : IntKind.u16.wrap n = n := IntWalk.u16_in n ⟨h0, h1⟩
theorem wu64 {n : Int} (h0 : 0 ≤ n) (h1 : n ≤ 18446744073709551615) : IntKind.u64.wrap n = n := IntWalk.u64_in n ⟨h0, h1⟩
theorem tm {n : Int} (k : Int) (h0 : 0 ≤ n) : Int.tmod n k = n % k := Int.tmod_eq_emod_of_nonneg h0
theorem td {n : Int} (k : Int) (h0 : 0 ≤ n) : Int.tdiv n k = n / k := Int.tdiv_eq_ediv_of_nonneg h0
theorem and64 (j : Nat) (hj : j ≤ 63) {n : Int} (h0 : 0 ≤ n) (h1 : n ≤ 9223372036854775807) : Go.bits .and .i64 n (2 ^ j - 1) = n % 2 ^ j :=
  bits_mask .i64 63 (by decide) (fun n a b => by rw [IntKind.wrap_i64]; omega) j hj n h0 (by omega)
theorem shl64 (y : Nat) (h : y ≤ 62) : shl .i64 1 (y : Int) = 2 ^ y := by
  unfold shl
  rw [Int.toNat_natCast, show IntKind.bits .i64 = 64 from rfl, Nat.min_eq_left (by omega), IntKind.wrap_i64]
  have h1 : (2 : Int) ^ y ≤ 2 ^ 62 := by exact_mod_cast Nat.pow_le_pow_right (by decide) h
  have h2 : (0 : Int) < 2 ^ y := Int.pow_pos (by decide)
  omega
theorem shlu64 (y : Nat) (h : y ≤ 63) : shl .u64 1 (y : Int) = 2 ^ y := by
  unfold shl
  rw [Int.toNat_natCast, show IntKind.bits .u64 = 64 from rfl, Nat.min_eq_left (by omega)]
  have h1 : (2 : Int) ^ y ≤ 2 ^ 63 := by exact_mod_cast Nat.pow_le_pow_right (by decide) h
  have h2 : (0 : Int) < 2 ^ y := Int.pow_pos (by decide)
  rw [Int.one_mul, wu64 (by omega) (by omega)]
theorem or64 (i : Nat) (hi : i ≤ 62) {x y : Int} (hx : 0 ≤ x) (hd : x % 2 ^ i = 0) (hx1 : x < 4611686018427387904) (hy : 0 ≤ y) (hy1 : y < 2 ^ i) : Go.bits .or .i64 x y = x + y := by
  have h1 : (2 : Int) ^ i ≤ 2 ^ 62 := by exact_mod_cast Nat.pow_le_pow_right (by decide) hi
  exact bits_join .i64 62 (by decide) (fun n a b => by rw [IntKind.wrap_i64]; omega) i x y hx hd (by omega) hy hy1 (by omega)
theorem eq_list {s t : ByteArray} (h : s = t) : s.toList = t.toList := by rw [h]
/-- 1 + z % 4, as the code has it. -/
theorem size4 {z : Int} (h0 : 0 ≤ z) (h1 : z ≤ 255) : ∃ k : Nat, wrap64 (1 + wrap64 (Int.tmod z 4)) = (k : Int) ∧ 1 ≤ k ∧ k ≤ 4 :=
  ⟨(1 + z % 4).toNat, by rw [tm 4 h0, w64 (n := z % 4) (by omega) (by omega), w64 (by omega) (by omega)]; omega, by omega, by omega⟩
theorem pow8 (k : Nat) : (2 : Int) ^ (8 * k) = 256 ^ k := by rw [Int.pow_mul]; rfl
theorem toL (s : ByteArray) : s.toList = Sp.bl s := ByteArray.toList_eq s
theorem mn_cut (s : ByteArray) (n : Nat) : ∃ p : Nat, mn (s.size : Int) (n : Int) = (p : Int) ∧ p ≤ n ∧ p ≤ s.size ∧ ((s.extract 0 ((p : Int)).toNat).size = p) :=
  ⟨min s.size n, by unfold mn; omega, by omega, by omega, by rw [ByteArray.size_extract]; omega⟩
end Go.Proofs.Ythmpmladneiegaa.Lem
