/- With one bit of its header turned a packet is refused (a bit, but the four that say how long the header is). -/
import Derived.Test.YthdaldicdhpnoaaPr13
import Derived.Test.YthdaldicdhpnoaaLem
set_option linter.unusedVariables false
set_option linter.unusedSimpArgs false
namespace Go.Proofs.Ythdaldicdhpnoaa.Pure
open Go.RowKit Go.Proofs.Ythdaldicdhpnoaa.Pr Go.Proofs.Ythdaldicdhpnoaa.Sp Go.Proofs.Ythdaldicdhpnoaa.Lem Go.Proofs.YthdaldicdhpnoaaW.PrintWords Go.Proofs.YthdaldicdhpnoaaW.PrintLast Go.Proofs.YthdaldicdhpnoaaW.PrintMore

theorem examples_true : weighbridgelaw04_examples.f = some true := by kernel_rfl
theorem low_kept : ∀ x : Fin 256, ∀ k : Fin 4, Go.bits .xor .u8 (x.val : Int) (shl .u8 1 ((k.val : Int) + 4)) % 16 = (x.val : Int) % 16 := by decide +kernel
theorem b0_set0 (x : UInt8) (r : List UInt8) (u : UInt8) : ip4B0 ((x :: r).set 0 u) = (u.toNat : Int) := rfl
theorem b0_setS (x : UInt8) (r : List UInt8) (k : Nat) (u : UInt8) : ip4B0 ((x :: r).set (k + 1) u) = ip4B0 (x :: r) := rfl
theorem len_set {S : List UInt8} (k : Nat) (h : k < S.length) (v : Int) (v0 : 0 ≤ v) (v1 : v ≤ 255) (hv : k = 0 → v % 16 = ((S[k]'h).toNat : Int) % 16) : ip4Len (S.set k (UInt8.ofNat v.toNat)) = ip4Len S := by
  unfold ip4Len
  match S, k, h, hv with
  | x :: r, 0, h, hv =>
    have := hv rfl
    rw [b0_set0, UInt8.toNat_ofNat']
    have e : ip4B0 (x :: r) = (x.toNat : Int) := rfl
    rw [e]
    have e2 : (((x :: r)[0]'h).toNat : Int) = (x.toNat : Int) := rfl
    rw [e2] at this
    omega
  | x :: r, k + 1, h, hv => rw [b0_setS]
theorem refused {F z : List UInt8} (n : Nat) (hF : F.length = n) (hs : sum F = 65535) (hl : ip4Len (F ++ z) = (n : Int)) (k : Nat) (hk : k < n) (h : k < (F ++ z).length) (v : Int) (v0 : 0 ≤ v) (v1 : v ≤ 255) (hne : v ≠ (((F ++ z)[k]'h).toNat : Int)) (hv : k = 0 → v % 16 = (((F ++ z)[k]'h).toNat : Int) % 16) :
    (ip4Parse ((F ++ z).set k (UInt8.ofNat v.toNat))).e ≠ 0 := by
  intro he
  obtain ⟨_, h2, _, _⟩ := ip4Parse_ok he
  have hkF : k < F.length := by omega
  rw [len_set k h v v0 v1 hv, hl, Int.toNat_natCast, List.take_set, List.take_left' hF] at h2
  have e : (F ++ z)[k]'h = F[k]'hkF := List.getElem_append_left hkF
  rw [e] at hne
  exact sum_turned hkF v0 v1 hne hs h2
theorem bit_end {S : List UInt8} (n : Int) (M : Nat) (h4 : 4 ≤ n) (hM : n < 8 * (M : Int)) (hSM : M ≤ S.length) (hm : S.length ≤ 1500)
    (hr : ∀ (k : Nat) (_ : k < M) (h : k < S.length) (v : Int), 0 ≤ v → v ≤ 255 → v ≠ ((S[k]'h).toNat : Int) → (k = 0 → v % 16 = ((S[k]'h).toNat : Int) % 16) → (ip4Parse (S.set k (UInt8.ofNat v.toNat))).e ≠ 0) :
    (if (lb S).size ≤ 281474976710656 then ((some (numsOf (lb S) : List Int)).bind fun y => (if 0 ≤ (wrap64 (Int.tdiv n 8)) then (if (wrap64 (Int.tdiv n 8)) < (y.length : Int) then (if 0 ≤ (Int.tmod n 8) then ((ip4_Parse.f (strOfNums (y.set ((wrap64 (Int.tdiv n 8)) : Int).toNat (Go.bits .xor .u8 (rd y (wrap64 (Int.tdiv n 8))) (shl .u8 1 (Int.tmod n 8)))))).bind fun x => (if true = true then (some (x.2.2.2.2.2.2.2.2.2.2 != 0)) else (some false))) else (none)) else (none)) else (none))) else (none)) = some true := by
  have hn : ((numsOf (lb S)).length : Int) = (S.length : Int) := by rw [numsOf_length, lb_size]
  rw [if_pos (by rw [lb_size]; omega), Option.bind_some, hn, td 8 (by omega), w64 (n := n / 8) (by omega) (by omega), tm 8 (by omega), if_pos (by omega), if_pos (by omega), if_pos (by omega)]
  obtain ⟨k, hk⟩ : ∃ k : Nat, n / 8 = (k : Int) := ⟨(n / 8).toNat, by omega⟩
  have hlb : k < (bl (lb S)).length := by rw [bl_lb]; omega
  have hkS : k < S.length := by omega
  rw [hk, rd_numsOf (lb S) k hlb, Int.toNat_natCast]
  have eS : (bl (lb S))[k]'hlb = S[k]'hkS := List.getElem_of_eq (bl_lb S) hlb
  rw [eS]
  have hx := (S[k]'hkS).toNat_lt
  obtain ⟨v, hvv, v0, v1, hne, _, _⟩ := bit_turned (x := ((S[k]'hkS).toNat : Int)) (k := n % 8) (by omega) (by omega) (by omega) (by omega)
  have hlow : k = 0 → v % 16 = ((S[k]'hkS).toNat : Int) % 16 := fun h0 => by
    have := low_kept ⟨(S[k]'hkS).toNat, by omega⟩ ⟨(n % 8 - 4).toNat, by omega⟩
    rw [show ((((⟨(n % 8 - 4).toNat, by omega⟩ : Fin 4).val : Nat) : Int) + 4) = n % 8 by simp only; omega] at this
    rw [← hvv]; exact this
  have hrr := hr k (by omega) hkS v v0 v1 hne hlow
  rw [hvv, ip4_Parse_eq (by rw [strOfNums_size, List.length_set, numsOf_length, lb_size]; omega), Option.bind_some, bl_turned, bl_lb, if_pos rfl]
  simp only
  rw [show ((ip4Parse (S.set k (UInt8.ofNat v.toNat))).e != 0) = true by simpa using hrr]
theorem Ip4Bit : weighbridgelaw04_Ip4Bit.Pure := by
  intro t i f g l p a b o y x w0 w1 w2 w3 w4 w5 w6 w7 wo wy wx
  have b6 := wf_u32 w6
  have b7 := wf_u32 w7
  have bx := wf_i64 wx
  have hol := bl_length o
  have hyl := bl_length y
  refine ⟨1, ?_⟩
  unfold weighbridgelaw04_Ip4Bit.f
  rw [examples_true, Option.bind_some, if_pos rfl, ip4_Build_eq b6 b7 (by omega) (by omega), Option.bind_some]
  simp only
  by_cases he : (ip4Build t i f g l p a b (bl o) (bl y)).2 = 0
  · obtain ⟨R, hz⟩ := ip4Build_ok he
    have ho := (ip4Right_iff.1 R).2.2.2.2.2.2.1
    rw [if_pos he, he, ip4Build_yes R hz]
    simp only
    have hs := ip4Full_sum t i f g l p a b (bl o) (20 + ((bl o).length : Int) + ((bl y).length : Int))
    have hF := ip4Full_length t i f g l p a b (bl o) (20 + ((bl o).length : Int) + ((bl y).length : Int))
    have hL : ip4Len (ip4Full t i f g l p a b (bl o) (20 + ((bl o).length : Int) + ((bl y).length : Int)) ++ bl y) = 20 + ((bl o).length : Int) := (ip4Len_head ho _ _ _).1
    obtain ⟨F, hFe⟩ : ∃ F, ip4Full t i f g l p a b (bl o) (20 + ((bl o).length : Int) + ((bl y).length : Int)) = F := ⟨_, rfl⟩
    rw [hFe] at hs hF hL ⊢
    have hsz : (lb (F ++ bl y)).size = 20 + o.size + y.size := by rw [lb_size, List.length_append]; omega
    have hM : wrap64 (8 * wrap64 (20 + (o.size : Int))) = 8 * ((20 + (bl o).length : Nat) : Int) := by rw [w64 (n := 20 + (o.size : Int)) (by omega) (by omega), w64 (by omega) (by omega)]; omega
    have hd : decide (((lb (F ++ bl y)).size : Int) < wrap64 (20 + (o.size : Int))) = false := by rw [w64 (n := 20 + (o.size : Int)) (by omega) (by omega)]; exact decide_eq_false (by omega)
    have hr : ∀ (k : Nat) (_ : k < 20 + (bl o).length) (h : k < (F ++ bl y).length) (v : Int), 0 ≤ v → v ≤ 255 → v ≠ (((F ++ bl y)[k]'h).toNat : Int) → (k = 0 → v % 16 = (((F ++ bl y)[k]'h).toNat : Int) % 16) → (ip4Parse ((F ++ bl y).set k (UInt8.ofNat v.toNat))).e ≠ 0 := fun k hk h v v0 v1 hne hv =>
      refused (20 + (bl o).length) hF hs (by rw [hL]; omega) k hk h v v0 v1 hne hv
    have hSl : (F ++ bl y).length = 20 + (bl o).length + (bl y).length := by rw [List.length_append, hF]
    rw [hd, weighbridgelaw04_Ip4Bit.j0, if_neg (by decide), hM]
    by_cases hx : x < 0
    · rw [if_pos hx, if_neg (by omega), w64 (n := x + 1) (by omega) (by omega), w64 (n := -(x + 1)) (by omega) (by omega), tm (n := -(x + 1)) _ (by omega)]
      have m0 := Int.emod_nonneg (-(x + 1)) (b := 8 * ((20 + (bl o).length : Nat) : Int)) (by omega)
      have m1 := Int.emod_lt_of_pos (-(x + 1)) (b := 8 * ((20 + (bl o).length : Nat) : Int)) (by omega)
      by_cases h4 : -(x + 1) % (8 * ((20 + (bl o).length : Nat) : Int)) < 4
      · rw [if_pos h4, w64 (n := -(x + 1) % (8 * ((20 + (bl o).length : Nat) : Int)) + 4) (by omega) (by omega)]
        exact bit_end _ (20 + (bl o).length) (by omega) (by omega) (by omega) (by omega) hr
      · rw [if_neg h4]
        exact bit_end _ (20 + (bl o).length) (by omega) (by omega) (by omega) (by omega) hr
    · rw [if_neg hx, if_neg (by omega), tm (n := x) _ (by omega)]
      have m0 := Int.emod_nonneg x (b := 8 * ((20 + (bl o).length : Nat) : Int)) (by omega)
      have m1 := Int.emod_lt_of_pos x (b := 8 * ((20 + (bl o).length : Nat) : Int)) (by omega)
      by_cases h4 : x % (8 * ((20 + (bl o).length : Nat) : Int)) < 4
      · rw [if_pos h4, w64 (n := x % (8 * ((20 + (bl o).length : Nat) : Int)) + 4) (by omega) (by omega)]
        exact bit_end _ (20 + (bl o).length) (by omega) (by omega) (by omega) (by omega) hr
      · rw [if_neg h4]
        exact bit_end _ (20 + (bl o).length) (by omega) (by omega) (by omega) (by omega) hr
  · rw [if_neg he, weighbridgelaw04_Ip4Bit.j0, if_pos rfl, if_pos rfl]
    simpa using he

end Go.Proofs.Ythdaldicdhpnoaa.Pure
