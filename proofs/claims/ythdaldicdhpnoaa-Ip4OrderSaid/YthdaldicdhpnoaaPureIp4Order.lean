/- Of several errors the first one is told: too short, another version, a header's length, the total, the sum (a packet's body; how many bytes are cut off). -/
import Derived.Test.YthdaldicdhpnoaaPr17
import Derived.Test.YthdaldicdhpnoaaLem
set_option linter.unusedVariables false
set_option linter.unusedSimpArgs false
namespace Go.Proofs.Ythdaldicdhpnoaa.Pure
open Go.RowKit Go.Proofs.Ythdaldicdhpnoaa.Pr Go.Proofs.Ythdaldicdhpnoaa.Sp Go.Proofs.Ythdaldicdhpnoaa.Lem Go.Proofs.YthdaldicdhpnoaaW.PrintWords Go.Proofs.YthdaldicdhpnoaaW.PrintLast Go.Proofs.YthdaldicdhpnoaaW.PrintMore

theorem examples_true : weighbridgelaw04_examples.f = some true := by kernel_rfl
theorem parse_none {q : List UInt8} {e : Int} (h : (ip4Sizes q).2.2 = e) (he : e ≠ 0) : (ip4Parse q).e = e := by
  unfold ip4Parse; rw [if_neg (by rw [h]; exact he), h]; rfl
theorem short_e {q : List UInt8} (h : q.length < 20) : (ip4Parse q).e = 2 := parse_none (by unfold ip4Sizes; rw [if_pos (by omega)]) (by decide)
theorem version_e {q : List UInt8} (h : 20 ≤ q.length) (hb : ip4B0 q / 16 ≠ 4) : (ip4Parse q).e = 3 := parse_none (by unfold ip4Sizes; rw [if_neg (by omega), if_pos hb]) (by decide)
theorem header_e {q : List UInt8} (h : 20 ≤ q.length) (hb : ip4B0 q / 16 = 4) (hl : ip4Len q < 20) : (ip4Parse q).e = 4 := parse_none (by unfold ip4Sizes; rw [if_neg (by omega), if_neg (fun g => g hb), if_pos (Or.inl hl)]) (by decide)
theorem total_e {q : List UInt8} (h : 20 ≤ q.length) (hb : ip4B0 q / 16 = 4) (hl : ¬ (ip4Len q < 20 ∨ ip4Len q > q.length)) (ht : ip4Tot q > q.length) : (ip4Parse q).e = 5 := parse_none (by unfold ip4Sizes; rw [if_neg (by omega), if_neg (fun g => g hb), if_neg hl, if_pos (Or.inr ht)]) (by decide)
theorem sum_e {q : List UInt8} (h : (ip4Sizes q).2.2 = 0) (hs : sum (q.take (ip4Len q).toNat) ≠ 65535) : (ip4Parse q).e = 7 := by
  unfold ip4Parse; rw [if_pos h, if_neg hs]; rfl
theorem order_end (F l : List UInt8) (T ck : Int) (hF : ip4Head 0 0 0 0 9 6 1 2 [] T ck = F) (hT : T = 20 + (l.length : Int)) (hl : l.length ≤ 200) (hs : sum F = 65535) (n : Nat) (x8 x11 x12 : Int) (h0 : 0 ≤ x8 ∧ x8 ≤ 20 + (l.length : Int))
    (hw : x11 = if 20 + (l.length : Int) - x8 < 20 then 2 else x12) : weighbridgelaw04_Ip4Order.j1 (n + 1) true (lb (F ++ l)) x8 x11 x12 = some true := by
  have hFl : F.length = 20 := by rw [← hF, ip4Head_length]; rfl
  have hSl : (F ++ l).length = 20 + l.length := by rw [List.length_append, hFl]
  have hsz : (lb (F ++ l)).size = 20 + l.length := by rw [lb_size, hSl]
  have hx1 : (lb (F ++ l)).extract 1 (20 + l.length) = lb ((F ++ l).drop 1) := bl_inj (by rw [bl_extract, bl_lb, bl_lb, List.take_of_length_le (by omega)])
  have hx10 : (lb (F ++ l)).extract 0 10 = lb ((F ++ l).take 10) := bl_inj (by rw [bl_extract, bl_lb, bl_lb, List.drop_zero])
  have hx11 : (lb (F ++ l)).extract 11 (20 + l.length) = lb ((F ++ l).drop 11) := bl_inj (by rw [bl_extract, bl_lb, bl_lb, List.take_of_length_le (by omega)])
  have h10 : 10 < (bl (lb (F ++ l))).length := by rw [bl_lb]; omega
  have h10S : 10 < (F ++ l).length := by omega
  have h10F : 10 < F.length := by omega
  have hbt : bt (lb (F ++ l)) 10 = ((((F ++ l)[10]'h10S).toNat : Nat) : Int) := by
    have := bt_bl (lb (F ++ l)) 10 (by rw [hsz]; show 10 < _; omega)
    rw [this]
    have e : (bl (lb (F ++ l)))[(10 : Int).toNat]'(by rw [bl_lb]; show 10 < _; omega) = (F ++ l)[10]'h10S := List.getElem_of_eq (bl_lb (F ++ l)) _
    rw [e]
  have hx := ((F ++ l)[10]'h10S).toNat_lt
  obtain ⟨v, hvv, v0, v1, hne, _, _⟩ := bit_turned (x := (((F ++ l)[10]'h10S).toNat : Int)) (k := 0) (by omega) (by omega) (by omega) (by omega)
  rw [show shl .u8 1 0 = 1 by decide] at hvv
  have es : strOfNums [v] = lb [UInt8.ofNat v.toNat] := rfl
  have eset : (F ++ l).take 10 ++ [UInt8.ofNat v.toNat] ++ (F ++ l).drop 11 = (F ++ l).set 10 (UInt8.ofNat v.toNat) := by
    rw [List.set_eq_take_append_cons_drop, if_pos h10S, List.append_assoc]; rfl
  have p1 : (ip4Parse ([101] ++ (F ++ l).drop 1)).e = 3 := version_e (by rw [List.length_append, List.length_drop]; simp; omega) (by show ((101 : Int) / 16 ≠ 4); decide)
  have p2 : (ip4Parse ([68] ++ (F ++ l).drop 1)).e = 4 := header_e (by rw [List.length_append, List.length_drop]; simp; omega) (by show ((68 : Int) / 16 = 4); decide) (by show (4 : Int) * (68 % 16) < 20; decide)
  have p3 : (ip4Parse ((F ++ l).set 10 (UInt8.ofNat v.toNat))).e = 7 := by
    have hq : ((F ++ l).set 10 (UInt8.ofNat v.toNat)).length = 20 + l.length := by rw [List.length_set, hSl]
    have b0 : ip4B0 ((F ++ l).set 10 (UInt8.ofNat v.toNat)) = 69 := by rw [← hF]; rfl
    have tt : ip4Tot ((F ++ l).set 10 (UInt8.ofNat v.toNat)) = T := by
      unfold ip4Tot
      have e : (((F ++ l).set 10 (UInt8.ofNat v.toNat)).drop 2).take 2 = beBytes 2 T := by rw [← hF]; rfl
      have := get2 ((F ++ l).set 10 (UInt8.ofNat v.toNat)) 2 (by omega)
      rw [e] at this
      rw [show get ((F ++ l).set 10 (UInt8.ofNat v.toNat)) 2 2 = _ from this]; exact be2_in (by omega)
    have ll : ip4Len ((F ++ l).set 10 (UInt8.ofNat v.toNat)) = 20 := by unfold ip4Len; rw [b0]; rfl
    refine sum_e ?_ ?_
    · unfold ip4Sizes
      rw [hq, b0, ll, tt, if_neg (by omega), if_neg (by decide), if_neg (by omega), if_neg (by omega), if_neg (by omega)]
    · rw [ll, show ((20 : Int)).toNat = 20 from rfl, List.take_set, List.take_left' hFl]
      have e : (F ++ l)[10]'h10S = F[10]'h10F := List.getElem_append_left h10F
      rw [e] at hne
      exact sum_turned h10F v0 v1 hne hs
  rw [weighbridgelaw04_Ip4Order.j1, hsz, hbt, hvv, hx1, hx10, hx11, w64 (n := (((20 + l.length : Nat) : Int)) - x8) (by omega) (by omega), show (⟨#[101]⟩ : ByteArray) = lb [101] from rfl, show (⟨#[68]⟩ : ByteArray) = lb [68] from rfl]
  have z1 : ((F ++ l).drop 1).length = 19 + l.length := by rw [List.length_drop]; omega
  have z10 : ((F ++ l).take 10).length = 10 := by rw [List.length_take]; omega
  have z11 : ((F ++ l).drop 11).length = 9 + l.length := by rw [List.length_drop]; omega
  have fin : ∀ y : Int, x11 = y → (if 1 ≤ (((20 + l.length : Nat) : Int)) then (if 1 + (lb ((F ++ l).drop 1)).size ≤ 9223372036854775807 then ((ip4_Parse.f (lb [101] ++ (lb ((F ++ l).drop 1)))).bind fun bt403 => ((ip4_Parse.f (lb [68] ++ (lb ((F ++ l).drop 1)))).bind fun bt415 => (if (0 : Int) ≤ 10 then (if 10 ≤ (((20 + l.length : Nat) : Int)) then (if 10 < (((20 + l.length : Nat) : Int)) then ((some (([v] : List Int) : List Int)).bind fun y427 => (if (lb ((F ++ l).take 10)).size + (strOfNums y427).size ≤ 9223372036854775807 then (if 11 ≤ (((20 + l.length : Nat) : Int)) then (if ((lb ((F ++ l).take 10)) ++ (strOfNums y427)).size + (lb ((F ++ l).drop 11)).size ≤ 9223372036854775807 then ((ip4_Parse.f (((lb ((F ++ l).take 10)) ++ (strOfNums y427)) ++ (lb ((F ++ l).drop 11)))).bind fun bt430 => (if true = true then (if x11 = y then (if bt403.2.2.2.2.2.2.2.2.2.2 = 3 then (if bt415.2.2.2.2.2.2.2.2.2.2 = 4 then (some (bt430.2.2.2.2.2.2.2.2.2.2 == 7)) else (some false)) else (some false)) else (some false)) else (some false))) else (none)) else (none)) else (none))) else (none)) else (none)) else (none)))) else (none)) else (none)) = some true := fun y hy => by
    rw [if_pos (by omega), if_pos (by rw [lb_size, z1]; omega), lb_append, ip4_Parse_eq (by rw [lb_size, List.length_append, z1]; simp; omega), Option.bind_some, bl_lb, lb_append, ip4_Parse_eq (by rw [lb_size, List.length_append, z1]; simp; omega), Option.bind_some, bl_lb, if_pos (by decide), if_pos (by omega), if_pos (by omega), Option.bind_some, es, if_pos (by rw [lb_size, lb_size, z10]; simp), if_pos (by omega), lb_append, if_pos (by rw [lb_size, lb_size, List.length_append, z10, z11]; simp; omega), lb_append, eset, ip4_Parse_eq (by rw [lb_size, List.length_set, hSl]; omega), Option.bind_some, bl_lb, if_pos rfl, if_pos hy]
    simp only
    rw [p1, p2, p3, if_pos rfl, if_pos rfl]; rfl
  by_cases hc : 20 + (l.length : Int) - x8 < 20
  · rw [if_pos hc] at hw
    rw [if_pos (by omega)]
    exact fin 2 hw
  · rw [if_neg hc] at hw
    rw [if_neg (by omega)]
    exact fin x12 hw
theorem Ip4Order : weighbridgelaw04_Ip4Order.Pure := by
  intro s c ws wc
  have bc := wf_u8 wc
  refine ⟨2, ?_⟩
  unfold weighbridgelaw04_Ip4Order.f
  obtain ⟨q, hq, hq1, hq2, hq3⟩ := mn_cut s 200
  obtain ⟨l, hl⟩ : ∃ l, bl (s.extract 0 ((q : Int)).toNat) = l := ⟨_, rfl⟩
  have hll : l.length = q := by rw [← hl, bl_length, hq3]
  have u : (0 : Int) ≤ 1 ∧ (1 : Int) ≤ 4294967295 := by decide
  have u2 : (0 : Int) ≤ 2 ∧ (2 : Int) ≤ 4294967295 := by decide
  have R : ip4Right 0 0 0 0 9 6 [] = true := by decide
  rw [examples_true, Option.bind_some, if_pos rfl, show (200 : Int) = ((200 : Nat) : Int) from rfl, hq, if_pos (by omega), if_pos (by omega), show s.extract 0 ((q : Int)).toNat = lb l by rw [← hl, lb_bl], ip4_Build_eq u u2 (by decide) (by rw [lb_size]; omega), Option.bind_some, bl_lb, show bl (⟨#[]⟩ : ByteArray) = [] from rfl, ip4Build_yes R (by simp; omega)]
  simp only
  rw [if_pos trivial]
  have hs := ip4Full_sum 0 0 0 0 9 6 1 2 [] (20 + (([] : List UInt8).length : Int) + (l.length : Int))
  have hfull := ip4Parse_full (a := 1) (b := 2) (s := l) R u u2 (by simp; omega) []
  obtain ⟨T, hT⟩ : ∃ T, 20 + (([] : List UInt8).length : Int) + (l.length : Int) = T := ⟨_, rfl⟩
  rw [hT] at hs hfull ⊢
  unfold ip4Full at hs hfull ⊢
  obtain ⟨ck, hck⟩ : ∃ ck, check (ip4Head 0 0 0 0 9 6 1 2 [] T 0) = ck := ⟨_, rfl⟩
  rw [hck] at hs hfull ⊢
  obtain ⟨F, hF⟩ : ∃ F, ip4Head 0 0 0 0 9 6 1 2 [] T ck = F := ⟨_, rfl⟩
  rw [hF] at hs hfull ⊢
  rw [List.append_nil] at hfull
  have hT' : T = 20 + (l.length : Int) := by rw [← hT]; simp
  have hFl : F.length = 20 := by rw [← hF, ip4Head_length]; rfl
  have hSl : (F ++ l).length = 20 + l.length := by rw [List.length_append, hFl]
  have hsz : (lb (F ++ l)).size = 20 + l.length := by rw [lb_size, hSl]
  rw [show decide (((lb (F ++ l)).size : Int) < 20) = false from decide_eq_false (by omega), weighbridgelaw04_Ip4Order.j0, if_neg (by decide), hsz, w64 (n := (((20 + l.length : Nat) : Int)) + 1) (by omega) (by omega), if_neg (by omega), w64 (n := c) (by omega) (by omega), tm _ bc.1]
  have m0 := Int.emod_nonneg c (b := (((20 + l.length : Nat) : Int)) + 1) (by omega)
  have m1 := Int.emod_lt_of_pos c (b := (((20 + l.length : Nat) : Int)) + 1) (by omega)
  obtain ⟨k, hk⟩ : ∃ k, c % ((((20 + l.length : Nat) : Int)) + 1) = k := ⟨_, rfl⟩
  rw [hk] at m0 m1 ⊢
  rw [w64 (n := (((20 + l.length : Nat) : Int)) - k) (by omega) (by omega), if_pos (by omega), if_pos (by omega)]
  obtain ⟨m, hm⟩ : ∃ m : Nat, (((20 + l.length : Nat) : Int)) - k = (m : Int) := ⟨((((20 + l.length : Nat) : Int)) - k).toNat, by omega⟩
  rw [hm, Int.toNat_natCast, show (lb (F ++ l)).extract 0 m = lb ((F ++ l).take m) from bl_inj (by rw [bl_extract, bl_lb, bl_lb, List.drop_zero]), ip4_Parse_eq (by rw [lb_size, List.length_take]; omega), Option.bind_some, bl_lb]
  simp only
  have pe : (ip4Parse ((F ++ l).take m)).e = if 20 + (l.length : Int) - k < 20 then 2 else if k > 0 then 5 else 0 := by
    have htl : ((F ++ l).take m).length = m := by rw [List.length_take]; omega
    by_cases h1 : 20 + (l.length : Int) - k < 20
    · rw [if_pos h1]; exact short_e (by omega)
    · rw [if_neg h1]
      by_cases h2 : k > 0
      · rw [if_pos h2]
        have et : (F ++ l).take m = ip4Head 0 0 0 0 9 6 1 2 [] T ck ++ l.take (m - 20) := by
          rw [hF, List.take_append, List.take_of_length_le (by omega), hFl]
        have ho : ([] : List UInt8).length ≤ 40 ∧ ([] : List UInt8).length % 4 = 0 := by decide
        have hL := ip4Len_head (t := 0) (i := 0) (f := 0) (g := 0) (l := 9) (p := 6) (a := 1) (b := 2) ho T ck (l.take (m - 20))
        have hTt := ip4Tot_head (t := 0) (i := 0) (f := 0) (g := 0) (l := 9) (p := 6) (a := 1) (b := 2) (o := []) T ck (by omega) (l.take (m - 20))
        rw [← et] at hL hTt
        have hL1 : ip4Len ((F ++ l).take m) = 20 := by rw [hL.1]; rfl
        exact total_e (by omega) hL.2 (by rw [hL1, htl]; omega) (by rw [hTt, htl]; omega)
      · rw [if_neg h2]
        have : (F ++ l).take m = F ++ l := List.take_of_length_le (by omega)
        rw [this, hfull]
  by_cases h2 : k > 0
  · rw [if_pos h2]
    exact order_end F l T ck hF hT' (by omega) hs 0 k _ 5 (by omega) (by rw [pe, if_pos h2])
  · rw [if_neg h2]
    exact order_end F l T ck hF hT' (by omega) hs 0 k _ 0 (by omega) (by rw [pe, if_neg h2])

end Go.Proofs.Ythdaldicdhpnoaa.Pure
