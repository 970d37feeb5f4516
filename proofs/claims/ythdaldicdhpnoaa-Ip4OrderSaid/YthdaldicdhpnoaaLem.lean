-- trimmed by trims.py
/- Small words on numbers for the plain statements: what a number of its kind is, where nothing wraps, how bits are sums. -/
import Derived.Test.YthdaldicdhpnoaaPr0
set_option linter.unusedVariables false
set_option linter.unusedSimpArgs false
namespace Go.Proofs.Ythdaldicdhpnoaa.Lem
open Go.RowKit Go.Proofs.YthdaldicdhpnoaaW.PrintWords Go.Proofs.YthdaldicdhpnoaaW.PrintMore

theorem wf_u8 {n : Int} (h : (Lit.int .u8 n).wf = true) : 0 ≤ n ∧ n ≤ 255 := by
  simp [Lit.wf, IntKind.min, IntKind.max, IntKind.bits, IntKind.signed] at h; omega
theorem w64 {n : Int} (h0 : -9223372036854775808 ≤ n) (h1 : n ≤ 9223372036854775807) : wrap64 n = n := by unfold wrap64; omega
theorem w16 {n : Int} (h0 : 0 ≤ n) (h1 : n ≤ 65535) : IntKind.u16.wrap n = n := IntWalk.u16_in n ⟨h0, h1⟩
theorem tm {n : Int} (k : Int) (h0 : 0 ≤ n) : Int.tmod n k = n % k := Int.tmod_eq_emod_of_nonneg h0
theorem mn_cut (s : ByteArray) (n : Nat) : ∃ p : Nat, mn (s.size : Int) (n : Int) = (p : Int) ∧ p ≤ n ∧ p ≤ s.size ∧ ((s.extract 0 ((p : Int)).toNat).size = p) :=
  ⟨min s.size n, by unfold mn; omega, by omega, by omega, by rw [ByteArray.size_extract]; omega⟩
/-! ### checks of segments -/
section
open Go.Proofs.Ythdaldicdhpnoaa.Sp
/-- a word set at an even place -/
def put2 (l : List UInt8) (k : Nat) (n : Int) : List UInt8 := l.take k ++ beBytes 2 n ++ l.drop (k + 2)
theorem wsum_put2 {l : List UInt8} {k : Nat} {n : Int} (hk : k % 2 = 0) (h : k + 2 ≤ l.length) (h0 : 0 ≤ n) (h1 : n ≤ 65535) : wsum (wl (put2 l k n)) = wsum (wl (l.take k)) + n + wsum (wl (l.drop (k + 2))) := by
  have e : (l.take k).length = k := by rw [List.length_take]; omega
  unfold put2
  rw [wsum_even _ _ (by rw [List.length_append, e, beBytes_length]; omega), wsum_even _ _ (by rw [e]; exact hk), wsum_be2]
  omega
end
/-! ### one byte another one -/
section
open Go.Proofs.Ythdaldicdhpnoaa.Sp Go.Proofs.Ythdaldicdhpnoaa.Pr
theorem wsum_nil : wsum (wl []) = 0 := rfl
theorem wsum_one (x : UInt8) : wsum (wl [x]) = (x.toNat : Int) * 256 := by
  have e0 : (0 : UInt8).toNat = 0 := rfl
  have e : wl [x] = wl [x, 0] := by rw [wl_two, e0, Nat.add_zero]; rfl
  rw [e, wsum_two, wsum_nil]; show (x.toNat : Int) * 256 + 0 + 0 = _; omega
theorem wsum_set (l : List UInt8) : ∀ (i : Nat) (h : i < l.length) (b : UInt8), wsum (wl (l.set i b)) = wsum (wl l) + ((b.toNat : Int) - ((l[i]'h).toNat : Int)) * (if i % 2 = 0 then 256 else 1) := by
  induction l using wl.induct with
  | case1 => intro i h; simp at h
  | case2 x =>
    intro i h b
    obtain rfl : i = 0 := by simp at h; omega
    show wsum (wl [b]) = wsum (wl [x]) + ((b.toNat : Int) - (x.toNat : Int)) * 256
    rw [wsum_one, wsum_one]; omega
  | case3 x y r ih =>
    intro i h b
    match i, h with
    | 0, h =>
      show wsum (wl (b :: y :: r)) = wsum (wl (x :: y :: r)) + ((b.toNat : Int) - (x.toNat : Int)) * 256
      rw [wsum_two, wsum_two]; omega
    | 1, h =>
      show wsum (wl (x :: b :: r)) = wsum (wl (x :: y :: r)) + ((b.toNat : Int) - (y.toNat : Int)) * 1
      rw [wsum_two, wsum_two]; omega
    | i + 2, h =>
      have h' : i < r.length := by simpa using h
      show wsum (wl (x :: y :: r.set i b)) = wsum (wl (x :: y :: r)) + ((b.toNat : Int) - ((r[i]'h').toNat : Int)) * (if (i + 2) % 2 = 0 then 256 else 1)
      rw [wsum_two, wsum_two, ih i h' b, show (i + 2) % 2 = i % 2 by omega]; omega
theorem bit_all : ∀ x : Fin 256, ∀ k : Fin 8, (Go.bits .xor .u8 (x.val : Int) (shl .u8 1 (k.val : Int)) = (x.val : Int) + 2 ^ k.val ∨ Go.bits .xor .u8 (x.val : Int) (shl .u8 1 (k.val : Int)) = (x.val : Int) - 2 ^ k.val) ∧ 0 ≤ Go.bits .xor .u8 (x.val : Int) (shl .u8 1 (k.val : Int)) ∧ Go.bits .xor .u8 (x.val : Int) (shl .u8 1 (k.val : Int)) ≤ 255 := by decide +kernel
/-- a bit of a byte turned: another number, by less than a word -/
theorem bit_turned {x k : Int} (h0 : 0 ≤ x) (h1 : x ≤ 255) (k0 : 0 ≤ k) (k1 : k ≤ 7) : ∃ v : Int, Go.bits .xor .u8 x (shl .u8 1 k) = v ∧ 0 ≤ v ∧ v ≤ 255 ∧ v ≠ x ∧ v - x ≤ 128 ∧ x - v ≤ 128 := by
  have h := bit_all ⟨x.toNat, by omega⟩ ⟨k.toNat, by omega⟩
  have e1 : ((x.toNat : Nat) : Int) = x := by omega
  have e2 : ((k.toNat : Nat) : Int) = k := by omega
  simp only [e1, e2] at h
  have p0 : (0 : Int) < 2 ^ k.toNat := Int.pow_pos (by decide)
  have p1 : (2 : Int) ^ k.toNat ≤ 2 ^ 7 := by exact_mod_cast Nat.pow_le_pow_right (by decide) (by omega)
  refine ⟨_, rfl, h.2.1, h.2.2, ?_⟩
  rcases h.1 with h | h <;> rw [h] <;> omega
/-- a text whose sum is 65535 has another one with a byte another one -/
theorem sum_turned {l : List UInt8} {i : Nat} (h : i < l.length) {v : Int} (v0 : 0 ≤ v) (v1 : v ≤ 255) (hne : v ≠ ((l[i]'h).toNat : Int)) (hs : sum l = 65535) : sum (l.set i (UInt8.ofNat v.toNat)) ≠ 65535 := by
  have w0 := (wsum_bounds (wl l)).1
  have w1 := (wsum_bounds (wl (l.set i (UInt8.ofNat v.toNat)))).1
  have hb := (l[i]'h).toNat_lt
  have e := wsum_set l i h (UInt8.ofNat v.toNat)
  have ev : ((UInt8.ofNat v.toNat).toNat : Int) = v := by rw [UInt8.toNat_ofNat']; omega
  rw [ev] at e
  unfold sum fold16 at hs ⊢
  by_cases hp : i % 2 = 0
  · rw [if_pos hp] at e
    split at hs <;> split <;> omega
  · rw [if_neg hp] at e
    split at hs <;> split <;> omega
end
/-! ### TCP segments -/
section
open Go.Proofs.Ythdaldicdhpnoaa.Sp
theorem be4_of {n : Int} (h : 0 ≤ n ∧ n ≤ 4294967295) : beNum (beBytes 4 n) = n := beNum_beBytes 4 n h.1 (by omega)
/-! ### IPv4 -/
/-- a text with its check in it, at an even place -/
theorem sum_checked {L : List UInt8} {k : Nat} (hk : k % 2 = 0) (h : k + 2 ≤ L.length) (e : put2 L k 0 = L) : sum (put2 L k (check L)) = 65535 := by
  have hc : 0 ≤ check L ∧ check L ≤ 65535 := by have := sum_bounds L; unfold check; omega
  have h0 : wsum (wl L) = wsum (wl (put2 L k 0)) := by rw [e]
  have w1 := (wsum_bounds (wl (L.take k))).1
  have w2 := (wsum_bounds (wl (L.drop (k + 2)))).1
  rw [wsum_put2 hk h (by decide) (by decide)] at h0
  unfold sum
  rw [wsum_put2 hk h hc.1 hc.2]
  unfold check sum
  rw [h0]
  unfold fold16
  (repeat' split) <;> omega
theorem ip4Full_sum (t i f g l p a b : Int) (o : List UInt8) (T : Int) : sum (ip4Full t i f g l p a b o T) = 65535 :=
  sum_checked (L := ip4Head t i f g l p a b o T 0) (k := 10) (by decide) (by rw [ip4Head_length]; omega) rfl
theorem ip4Build_yes {t i f g l p a b : Int} {o s : List UInt8} (r : ip4Right t i f g l p o = true) (h : 20 + (o.length : Int) + (s.length : Int) ≤ 1500) : ip4Build t i f g l p a b o s = (ip4Full t i f g l p a b o (20 + (o.length : Int) + (s.length : Int)) ++ s, 0) := by
  unfold ip4Build; rw [if_pos r, if_neg (by omega)]
theorem be1_of {n : Int} (h : 0 ≤ n ∧ n ≤ 255) : beNum (beBytes 1 n) = n := beNum_beBytes 1 n h.1 (by omega)
theorem be2_in {n : Int} (h : 0 ≤ n ∧ n ≤ 65535) : beNum (beBytes 2 n) = n := beNum_beBytes 2 n h.1 (by omega)
theorem ip4B0_head {t i f g l p a b : Int} {o : List UInt8} (ho : o.length ≤ 40) (T ck : Int) (z : List UInt8) : ip4B0 (ip4Head t i f g l p a b o T ck ++ z) = 64 + (20 + (o.length : Int)) / 4 := by
  have h : ip4B0 (ip4Head t i f g l p a b o T ck ++ z) = ((UInt8.ofNat ((64 + (20 + (o.length : Int)) / 4) % 256).toNat).toNat : Int) := rfl
  rw [h, UInt8.toNat_ofNat']; omega
theorem ip4Len_head {t i f g l p a b : Int} {o : List UInt8} (ho : o.length ≤ 40 ∧ o.length % 4 = 0) (T ck : Int) (z : List UInt8) : ip4Len (ip4Head t i f g l p a b o T ck ++ z) = 20 + (o.length : Int) ∧ ip4B0 (ip4Head t i f g l p a b o T ck ++ z) / 16 = 4 := by
  unfold ip4Len
  rw [ip4B0_head ho.1]; omega
theorem ip4Tot_head {t i f g l p a b : Int} {o : List UInt8} (T ck : Int) (hT : 0 ≤ T ∧ T ≤ 65535) (z : List UInt8) : ip4Tot (ip4Head t i f g l p a b o T ck ++ z) = T := by
  unfold ip4Tot
  have hl := ip4Head_length t i f g l p a b o T ck
  have e : ((ip4Head t i f g l p a b o T ck ++ z).drop 2).take 2 = beBytes 2 T := rfl
  have := get2 (ip4Head t i f g l p a b o T ck ++ z) 2 (by rw [List.length_append]; omega)
  rw [e] at this
  rw [show get (ip4Head t i f g l p a b o T ck ++ z) 2 2 = _ from this]; exact be2_in hT
theorem ip4Sizes_head {t i f g l p a b : Int} {o : List UInt8} (ho : o.length ≤ 40 ∧ o.length % 4 = 0) (T ck : Int) (z : List UInt8) (h0 : 20 + (o.length : Int) ≤ T) (h1 : T ≤ 1500) (h2 : T ≤ 20 + (o.length : Int) + (z.length : Int)) : ip4Sizes (ip4Head t i f g l p a b o T ck ++ z) = (20 + (o.length : Int), T, 0) := by
  have hl : (ip4Head t i f g l p a b o T ck ++ z).length = 20 + o.length + z.length := by rw [List.length_append, ip4Head_length]
  have hL := ip4Len_head (t := t) (i := i) (f := f) (g := g) (l := l) (p := p) (a := a) (b := b) ho T ck z
  unfold ip4Sizes
  rw [hL.1, ip4Tot_head T ck (by omega) z, hl, if_neg (by omega), if_neg (by rw [hL.2]; exact fun h => h rfl), if_neg (by omega), if_neg (by omega), if_neg (by omega)]
theorem ip4Fields_head {t i f g l p a b : Int} {o : List UInt8} (r : ip4Right t i f g l p o = true) (ha : 0 ≤ a ∧ a ≤ 4294967295) (hb : 0 ≤ b ∧ b ≤ 4294967295) (T ck : Int) (z : List UInt8) :
    ip4Fields (ip4Head t i f g l p a b o T ck ++ z) (20 + (o.length : Int)) T = ⟨t, i, f, g, l, p, a, b, o, ((ip4Head t i f g l p a b o T ck ++ z).take T.toNat).drop (20 + (o.length : Int)).toNat, 0⟩ := by
  obtain ⟨r0, r1, r2, r3, r4, r5, ho, _⟩ := ip4Right_iff.1 r
  have hl := ip4Head_length t i f g l p a b o T ck
  obtain ⟨q, hq⟩ : ∃ q, ip4Head t i f g l p a b o T ck ++ z = q := ⟨_, rfl⟩
  have hql : q.length = 20 + o.length + z.length := by rw [← hq, List.length_append, hl]
  have g1 : get q 1 1 = (t, true) := by
    have e : (q.drop 1).take 1 = beBytes 1 t := by rw [← hq]; rfl
    have := get1 q 1 (by omega); rw [e, be1_of r0] at this; exact this
  have g4 : get q 4 2 = (i, true) := by
    have e : (q.drop 4).take 2 = beBytes 2 i := by rw [← hq]; rfl
    have := get2 q 4 (by omega); rw [e, be2_in r1] at this; exact this
  have g6 : get q 6 2 = (f * 8192 + g, true) := by
    have e : (q.drop 6).take 2 = beBytes 2 (f * 8192 + g) := by rw [← hq]; rfl
    have := get2 q 6 (by omega); rw [e, be2_in (by omega)] at this; exact this
  have g8 : get q 8 1 = (l, true) := by
    have e : (q.drop 8).take 1 = beBytes 1 l := by rw [← hq]; rfl
    have := get1 q 8 (by omega); rw [e, be1_of r4] at this; exact this
  have g9 : get q 9 1 = (p, true) := by
    have e : (q.drop 9).take 1 = beBytes 1 p := by rw [← hq]; rfl
    have := get1 q 9 (by omega); rw [e, be1_of r5] at this; exact this
  have g12 : get q 12 4 = (a, true) := by
    have e : (q.drop 12).take 4 = beBytes 4 a := by rw [← hq]; rfl
    have := get4 q 12 (by omega); rw [e, be4_of ha] at this; exact this
  have g16 : get q 16 4 = (b, true) := by
    have e : (q.drop 16).take 4 = beBytes 4 b := by rw [← hq]; rfl
    have := get4 q 16 (by omega); rw [e, be4_of hb] at this; exact this
  have ht : q.take (20 + (o.length : Int)).toNat = ip4Head t i f g l p a b o T ck := by
    rw [← hq]; exact List.take_left' (by rw [hl]; omega)
  have hd : (ip4Head t i f g l p a b o T ck).drop 20 = o := rfl
  unfold ip4Fields
  rw [hq, g1, g4, g6, g8, g9, g12, g16, ht, hd]
  have x1 : (f * 8192 + g) / 8192 = f := by omega
  have x2 : (f * 8192 + g) % 8192 = g := by omega
  rw [x1, x2]
/-- what is built is parsed as it was, with anything behind -/
theorem ip4Parse_full {t i f g l p a b : Int} {o s : List UInt8} (r : ip4Right t i f g l p o = true) (ha : 0 ≤ a ∧ a ≤ 4294967295) (hb : 0 ≤ b ∧ b ≤ 4294967295) (h : 20 + (o.length : Int) + (s.length : Int) ≤ 1500) (more : List UInt8) :
    ip4Parse (ip4Full t i f g l p a b o (20 + (o.length : Int) + (s.length : Int)) ++ s ++ more) = ⟨t, i, f, g, l, p, a, b, o, s, 0⟩ := by
  obtain ⟨_, _, _, _, _, _, ho, hok⟩ := ip4Right_iff.1 r
  obtain ⟨T, hT⟩ : ∃ T, 20 + (o.length : Int) + (s.length : Int) = T := ⟨_, rfl⟩
  have hsum := ip4Full_sum t i f g l p a b o T
  have hfl := ip4Full_length t i f g l p a b o T
  rw [hT]
  unfold ip4Full at hsum hfl ⊢
  obtain ⟨ck, hck⟩ : ∃ ck, check (ip4Head t i f g l p a b o T 0) = ck := ⟨_, rfl⟩
  rw [hck] at hsum hfl ⊢
  rw [List.append_assoc]
  have hz := ip4Sizes_head (t := t) (i := i) (f := f) (g := g) (l := l) (p := p) (a := a) (b := b) ho T ck (s ++ more) (by omega) (by omega) (by rw [List.length_append]; omega)
  have hL := (ip4Len_head (t := t) (i := i) (f := f) (g := g) (l := l) (p := p) (a := a) (b := b) ho T ck (s ++ more)).1
  have hTt := ip4Tot_head (t := t) (i := i) (f := f) (g := g) (l := l) (p := p) (a := a) (b := b) (o := o) T ck (by omega) (s ++ more)
  have htk : (ip4Head t i f g l p a b o T ck ++ (s ++ more)).take (20 + (o.length : Int)).toNat = ip4Head t i f g l p a b o T ck := List.take_left' (by rw [hfl]; omega)
  have hd : (ip4Head t i f g l p a b o T ck).drop 20 = o := rfl
  unfold ip4Parse
  rw [hz, if_pos rfl, hL, htk, if_pos hsum, hd, if_pos hok, hTt, ip4Fields_head r ha hb]
  have hb2 : ((ip4Head t i f g l p a b o T ck ++ (s ++ more)).take T.toNat).drop (20 + (o.length : Int)).toNat = s := by
    rw [← List.append_assoc, List.take_left' (by rw [List.length_append, hfl]; omega), List.drop_left' (by rw [hfl]; omega)]
  rw [hb2]
end
end Go.Proofs.Ythdaldicdhpnoaa.Lem
