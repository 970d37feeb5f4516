-- trimmed by trims.py
/- Small words on numbers for the plain statements: what a number of its kind is, where nothing wraps, how bits are sums. -/
import Derived.Test.YtfnjohklmpiboaaGreatPr0
set_option linter.unusedVariables false
set_option linter.unusedSimpArgs false
namespace Go.Proofs.YtfnjohklmpiboaaGreat.Lem
open Go.RowKit Go.Proofs.YtfnjohklmpiboaaGreatW.PrintWords Go.Proofs.YtfnjohklmpiboaaGreatW.PrintMore

theorem wf_i64 {n : Int} (h : (Lit.int .i64 n).wf = true) : -9223372036854775808 ≤ n ∧ n ≤ 9223372036854775807 := by
  simp [Lit.wf, IntKind.min, IntKind.max, IntKind.bits, IntKind.signed] at h; omega
theorem wf_u8 {n : Int} (h : (Lit.int .u8 n).wf = true) : 0 ≤ n ∧ n ≤ 255 := by
  simp [Lit.wf, IntKind.min, IntKind.max, IntKind.bits, IntKind.signed] at h; omega
theorem wf_u16 {n : Int} (h : (Lit.int .u16 n).wf = true) : 0 ≤ n ∧ n ≤ 65535 := by
  simp [Lit.wf, IntKind.min, IntKind.max, IntKind.bits, IntKind.signed] at h; omega
theorem wf_u32 {n : Int} (h : (Lit.int .u32 n).wf = true) : 0 ≤ n ∧ n ≤ 4294967295 := by
  simp [Lit.wf, IntKind.min, IntKind.max, IntKind.bits, IntKind.signed] at h; omega
theorem w64 {n : Int} (h0 : -9223372036854775808 ≤ n) (h1 : n ≤ 9223372036854775807) : wrap64 n = n := by unfold wrap64; omega
theorem w16 {n : Int} (h0 : 0 ≤ n) (h1 : n ≤ 65535) : IntKind.u16.wrap n = n := IntWalk.u16_in n ⟨h0, h1⟩
theorem tm {n : Int} (k : Int) (h0 : 0 ≤ n) : Int.tmod n k = n % k := Int.tmod_eq_emod_of_nonneg h0
theorem td {n : Int} (k : Int) (h0 : 0 ≤ n) : Int.tdiv n k = n / k := Int.tdiv_eq_ediv_of_nonneg h0
theorem toL (s : ByteArray) : s.toList = Sp.bl s := ByteArray.toList_eq s
/-! ### checks of segments -/
section
open Go.Proofs.YtfnjohklmpiboaaGreat.Sp
theorem cov_six (s : List UInt8) : cov 6 s = s := by unfold cov; rw [if_neg (fun h => absurd h.1 (by decide))]
/-- a word set at an even place -/
def put2 (l : List UInt8) (k : Nat) (n : Int) : List UInt8 := l.take k ++ beBytes 2 n ++ l.drop (k + 2)
theorem put2_length {l : List UInt8} {k : Nat} {n : Int} (h : k + 2 ≤ l.length) : (put2 l k n).length = l.length := by
  unfold put2; rw [List.length_append, List.length_append, List.length_take, List.length_drop, beBytes_length]; omega
theorem set_put2 {l : List UInt8} {k : Nat} {n : Int} (h : k + 2 ≤ l.length) (h0 : 0 ≤ n) (h1 : n ≤ 65535) : Sp.set l (k : Int) 2 n = (put2 l k n, true) := by
  rw [set_yes (fits2.2 ⟨h0, h1⟩) (has_iff.2 ⟨by decide, by decide, by omega, by omega⟩)]
  unfold put2
  rw [Int.toNat_natCast, show ((k : Int) + 2).toNat = k + 2 by omega]; rfl
theorem put2_put2 {l : List UInt8} {k : Nat} {m n : Int} (h : k + 2 ≤ l.length) : put2 (put2 l k m) k n = put2 l k n := by
  have e : (l.take k).length = k := by rw [List.length_take]; omega
  unfold put2
  rw [List.append_assoc (l.take k) (beBytes 2 m), List.take_left' e, List.append_assoc (l.take k) (beBytes 2 n), List.append_assoc (l.take k) (beBytes 2 n)]
  congr 2
  rw [← List.append_assoc, List.drop_left' (by rw [List.length_append, e, beBytes_length])]
end
/-! ### one byte another one -/
section
open Go.Proofs.YtfnjohklmpiboaaGreat.Sp Go.Proofs.YtfnjohklmpiboaaGreat.Pr
end
/-! ### TCP segments -/
section
open Go.Proofs.YtfnjohklmpiboaaGreat.Sp
theorem tcpBuild_yes {a b c d e f g : Int} {o s : List UInt8} (r : tcpRight a b e f g o = true) (h : 20 + (o.length : Int) + (s.length : Int) ≤ 1500) : tcpBuild a b c d e f g o s = (tcpHead a b c d e f g o ++ o ++ s, 0) := by
  unfold tcpBuild; rw [if_pos r, if_neg (by omega)]
theorem ip4Build_yes {t i f g l p a b : Int} {o s : List UInt8} (r : ip4Right t i f g l p o = true) (h : 20 + (o.length : Int) + (s.length : Int) ≤ 1500) : ip4Build t i f g l p a b o s = (ip4Full t i f g l p a b o (20 + (o.length : Int) + (s.length : Int)) ++ s, 0) := by
  unfold ip4Build; rw [if_pos r, if_neg (by omega)]
theorem ip4Parse_err {s : List UInt8} (h : (ip4Parse s).e ≠ 0) : ∃ e, e ≠ 0 ∧ ip4Parse s = ip4None e := by
  unfold ip4Parse at h ⊢
  split
  case isTrue h0 =>
    split
    case isTrue h1 =>
      split
      case isTrue h2 => rw [if_pos h0, if_pos h1, if_pos h2] at h; exact absurd rfl h
      case isFalse => exact ⟨6, by decide, rfl⟩
    case isFalse => exact ⟨7, by decide, rfl⟩
  case isFalse h0 => exact ⟨_, h0, rfl⟩
/-- what is parsed has the sum of all -/
theorem ip4Parse_ok {s : List UInt8} (h : (ip4Parse s).e = 0) : (ip4Sizes s).2.2 = 0 ∧ sum (s.take (ip4Len s).toNat) = 65535 ∧ optsOk ((s.take (ip4Len s).toNat).drop 20) = true ∧ ip4Parse s = ip4Fields s (ip4Len s) (ip4Tot s) := by
  unfold ip4Parse at h ⊢
  by_cases h0 : (ip4Sizes s).2.2 = 0
  · rw [if_pos h0] at h ⊢
    by_cases h1 : sum (s.take (ip4Len s).toNat) = 65535
    · rw [if_pos h1] at h ⊢
      by_cases h2 : optsOk ((s.take (ip4Len s).toNat).drop 20) = true
      · rw [if_pos h2]; exact ⟨h0, h1, h2, rfl⟩
      · rw [if_neg h2] at h; cases h
    · rw [if_neg h1] at h; cases h
  · rw [if_neg h0] at h; exact absurd h h0
end
end Go.Proofs.YtfnjohklmpiboaaGreat.Lem
