/- A name has a letter for each of the first six flags, in order, and is the same with whatever others. -/
import Derived.Test.YtlhpfoibohiggaaPr12
import Derived.Test.YtlhpfoibohiggaaLem
set_option linter.unusedVariables false
set_option linter.unusedSimpArgs false
namespace Go.Proofs.Ytlhpfoibohiggaa.Pure
open Go.RowKit Go.Proofs.Ytlhpfoibohiggaa.Pr Go.Proofs.Ytlhpfoibohiggaa.Sp Go.Proofs.Ytlhpfoibohiggaa.Lem Go.Proofs.YtlhpfoibohiggaaW.PrintWords Go.Proofs.YtlhpfoibohiggaaW.PrintLast Go.Proofs.YtlhpfoibohiggaaW.PrintMore

theorem examples_true : weighbridgelaw05_examples.f = some true := by kernel_rfl
theorem nm_prefix (x : Int) (i : Nat) : ∀ m, i ≤ m → ∃ r, nm x m = nm x i ++ r := by
  intro m
  induction m with
  | zero => intro h; obtain rfl : i = 0 := by omega
            exact ⟨[], by simp⟩
  | succ m ih =>
    intro h
    by_cases he : i = m + 1
    · subst he; exact ⟨[], by simp⟩
    · obtain ⟨r, hr⟩ := ih (by omega)
      rw [nm, hr, List.append_assoc]
      exact ⟨_, rfl⟩
theorem getL_congr {l l' : List UInt8} (e : l = l') (i : Nat) (h : i < l.length) (h' : i < l'.length) : l[i]'h = l'[i]'h' := by subst e; rfl
theorem bt_mid (p r : List UInt8) (c : UInt8) : bt (lb (p ++ c :: r)) (p.length : Int) = (c.toNat : Int) := by
  have h : ((p.length : Int)).toNat < (lb (p ++ c :: r)).size := by rw [lb_size, List.length_append, List.length_cons]; omega
  rw [bt_bl _ _ h, getL_congr (bl_lb (p ++ c :: r)) _ _ (by rw [Int.toNat_natCast, List.length_append, List.length_cons]; omega)]
  have e : (p ++ c :: r)[((p.length : Int)).toNat]'(by rw [Int.toNat_natCast, List.length_append, List.length_cons]; omega) = c := by
    simp only [Int.toNat_natCast]
    rw [List.getElem_append_right (Nat.le_refl _)]
    simp
  rw [e]
theorem letter_bt : ∀ i : Fin 6, bt (⟨#[70, 83, 82, 80, 65, 85]⟩ : ByteArray) (i.val : Int) = ((letters6.data.getD i.val 0).toNat : Int) := by decide +kernel
theorem nm_same {x z : Int} (h : x % 64 = z % 64) : nm x 6 = nm z 6 := by
  have e0 : x / 2 ^ 0 % 2 = z / 2 ^ 0 % 2 := by show x / 1 % 2 = z / 1 % 2; omega
  have e1 : x / 2 ^ 1 % 2 = z / 2 ^ 1 % 2 := by show x / 2 % 2 = z / 2 % 2; omega
  have e2 : x / 2 ^ 2 % 2 = z / 2 ^ 2 % 2 := by show x / 4 % 2 = z / 4 % 2; omega
  have e3 : x / 2 ^ 3 % 2 = z / 2 ^ 3 % 2 := by show x / 8 % 2 = z / 8 % 2; omega
  have e4 : x / 2 ^ 4 % 2 = z / 2 ^ 4 % 2 := by show x / 16 % 2 = z / 16 % 2; omega
  have e5 : x / 2 ^ 5 % 2 = z / 2 ^ 5 % 2 := by show x / 32 % 2 = z / 32 % 2; omega
  simp only [nm, e0, e1, e2, e3, e4, e5]
theorem or_low (x y : Int) (h0 : 0 ≤ x) (h1 : x < 64) (hy : y % 64 = 0) : Go.bits .or .i64 x y % 64 = x % 64 := by
  unfold Go.bits
  have ha : ((BitVec.ofInt 64 x).toNat : Int) = x % 18446744073709551616 := by rw [BitVec.toNat_ofInt]; omega
  have hb : ((BitVec.ofInt 64 y).toNat : Int) = y % 18446744073709551616 := by rw [BitVec.toNat_ofInt]; omega
  show IntKind.i64.wrap ((BitVec.ofInt 64 x ||| BitVec.ofInt 64 y).toNat : Int) % 64 = _
  rw [BitVec.toNat_or, IntKind.wrap_i64]
  have hm : ((BitVec.ofInt 64 x).toNat ||| (BitVec.ofInt 64 y).toNat) % 2 ^ 6 = ((BitVec.ofInt 64 x).toNat % 2 ^ 6) ||| ((BitVec.ofInt 64 y).toNat % 2 ^ 6) := Nat.or_mod_two_pow
  have hx6 : (BitVec.ofInt 64 x).toNat % 2 ^ 6 = x.toNat := by rw [show (2:Nat) ^ 6 = 64 from rfl]; omega
  have hy6 : (BitVec.ofInt 64 y).toNat % 2 ^ 6 = 0 := by rw [show (2:Nat) ^ 6 = 64 from rfl]; omega
  rw [hx6, hy6, Nat.or_zero] at hm
  have hm' : ((BitVec.ofInt 64 x).toNat ||| (BitVec.ofInt 64 y).toNat) % 64 = x.toNat := hm
  clear hm ha hb hx6 hy6
  generalize (BitVec.ofInt 64 x).toNat ||| (BitVec.ofInt 64 y).toNat = N at hm' ⊢
  omega
theorem names_loop (x o : Int) (h0 : 0 ≤ x) (h1 : x < 64) : ∀ (n i : Nat), i + n = 6 → ∀ k, n + 1 ≤ k → weighbridgelaw05_TcpNames.l0 k o true x (lb (nm x 6)) ((nm x i).length : Int) (i : Int) = some true := by
  intro n
  induction n with
  | zero =>
    intro i hi k hk
    obtain ⟨k, rfl⟩ : ∃ k', k = k' + 1 := ⟨k - 1, by omega⟩
    obtain rfl : i = 6 := by omega
    have hy : (wrap64 (o * 64)) % 64 = 0 := by unfold wrap64; omega
    have e := nm_same (or_low x (wrap64 (o * 64)) h0 h1 hy)
    unfold weighbridgelaw05_TcpNames.l0 tcp_Name.f
    rw [if_neg (by decide), if_pos rfl, if_pos (by rw [lb_size]), Option.bind_some, e]
    simp
  | succ n ih =>
    intro i hi k hk
    obtain ⟨k, rfl⟩ : ∃ k', k = k' + 1 := ⟨k - 1, by omega⟩
    have hn := nm_length x i
    have := ih (i + 1) (by omega) k (by omega)
    rw [show (((i + 1 : Nat)) : Int) = (i : Int) + 1 by omega] at this
    have hx0 : 0 ≤ x / 2 ^ i := Int.ediv_nonneg h0 (Int.pow_nonneg (by decide))
    rw [weighbridgelaw05_TcpNames.l0, if_pos (by omega), if_pos (by omega), shr_nat i (by omega), tm 2 hx0, w64 (n := (i : Int) + 1) (by omega) (by omega)]
    by_cases hb : x / 2 ^ i % 2 = 1
    · obtain ⟨r, hr⟩ := nm_prefix x (i + 1) 6 (by omega)
      have hs : nm x (i + 1) = nm x i ++ [letters6.data.getD i 0] := by rw [nm, if_neg (by omega)]
      have h6 : nm x 6 = nm x i ++ letters6.data.getD i 0 :: r := by rw [hr, hs]; simp
      have hz : (lb (nm x 6)).size = (nm x i).length + 1 + r.length := by rw [lb_size, h6, List.length_append, List.length_cons]; omega
      have hbt : bt (lb (nm x 6)) ((nm x i).length : Int) = bt (⟨#[70, 83, 82, 80, 65, 85]⟩ : ByteArray) (i : Int) := by
        rw [h6, bt_mid]; exact (letter_bt ⟨i, by omega⟩).symm
      rw [hs, List.length_append] at this
      rw [if_pos hb, if_neg (by omega), if_pos (by omega), if_pos (by omega), if_pos hbt, w64 (n := ((nm x i).length : Int) + 1) (by omega) (by omega)]
      rw [← this]
      congr 1
    · have h0 : x / 2 ^ i % 2 = 0 := by omega
      have hs : nm x (i + 1) = nm x i := by rw [nm, if_pos h0, List.append_nil]
      rw [if_neg hb]
      rw [hs] at this
      exact this
theorem TcpNames : weighbridgelaw05_TcpNames.Pure := by
  intro a o wa wo
  have ba := wf_u8 wa
  refine ⟨7, ?_⟩
  unfold weighbridgelaw05_TcpNames.f
  rw [examples_true, Option.bind_some, if_pos rfl, tm 64 ba.1, w64 (n := a % 64) (by omega) (by omega)]
  unfold tcp_Name.f
  rw [Option.bind_some]
  exact names_loop (a % 64) o (by omega) (by omega) 6 0 (by omega) 7 (by omega)

end Go.Proofs.Ytlhpfoibohiggaa.Pure
