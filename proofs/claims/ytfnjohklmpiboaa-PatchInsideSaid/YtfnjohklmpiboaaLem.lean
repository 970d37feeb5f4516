-- trimmed by trims.py
/- Small words on numbers for the plain statements: what a number of its kind is, where nothing wraps, how bits are sums. -/
import Derived.Test.YtfnjohklmpiboaaPr0
set_option linter.unusedVariables false
set_option linter.unusedSimpArgs false
namespace Go.Proofs.Ytfnjohklmpiboaa.Lem
open Go.RowKit Go.Proofs.YtfnjohklmpiboaaW.PrintWords Go.Proofs.YtfnjohklmpiboaaW.PrintMore

theorem wf_u8 {n : Int} (h : (Lit.int .u8 n).wf = true) : 0 ≤ n ∧ n ≤ 255 := by
  simp [Lit.wf, IntKind.min, IntKind.max, IntKind.bits, IntKind.signed] at h; omega
theorem wf_u16 {n : Int} (h : (Lit.int .u16 n).wf = true) : 0 ≤ n ∧ n ≤ 65535 := by
  simp [Lit.wf, IntKind.min, IntKind.max, IntKind.bits, IntKind.signed] at h; omega
theorem wf_u32 {n : Int} (h : (Lit.int .u32 n).wf = true) : 0 ≤ n ∧ n ≤ 4294967295 := by
  simp [Lit.wf, IntKind.min, IntKind.max, IntKind.bits, IntKind.signed] at h; omega
theorem w64 {n : Int} (h0 : -9223372036854775808 ≤ n) (h1 : n ≤ 9223372036854775807) : wrap64 n = n := by unfold wrap64; omega
theorem w16 {n : Int} (h0 : 0 ≤ n) (h1 : n ≤ 65535) : IntKind.u16.wrap n = n := IntWalk.u16_in n ⟨h0, h1⟩
theorem tm {n : Int} (k : Int) (h0 : 0 ≤ n) : Int.tmod n k = n % k := Int.tmod_eq_emod_of_nonneg h0
theorem td {n : Int} (k : Int) (h0 : 0 ≤ n) : Int.tdiv n k = n / k := Int.tdiv_eq_ediv_of_nonneg h0
/-! ### checks of segments -/
section
open Go.Proofs.Ytfnjohklmpiboaa.Sp
theorem cov_six (s : List UInt8) : cov 6 s = s := by unfold cov; rw [if_neg (fun h => absurd h.1 (by decide))]
/-- a word set at an even place -/
def put2 (l : List UInt8) (k : Nat) (n : Int) : List UInt8 := l.take k ++ beBytes 2 n ++ l.drop (k + 2)
theorem put2_length {l : List UInt8} {k : Nat} {n : Int} (h : k + 2 ≤ l.length) : (put2 l k n).length = l.length := by
  unfold put2; rw [List.length_append, List.length_append, List.length_take, List.length_drop, beBytes_length]; omega
theorem set_put2 {l : List UInt8} {k : Nat} {n : Int} (h : k + 2 ≤ l.length) (h0 : 0 ≤ n) (h1 : n ≤ 65535) : Sp.set l (k : Int) 2 n = (put2 l k n, true) := by
  rw [set_yes (fits2.2 ⟨h0, h1⟩) (has_iff.2 ⟨by decide, by decide, by omega, by omega⟩)]
  unfold put2
  rw [Int.toNat_natCast, show ((k : Int) + 2).toNat = k + 2 by omega]; rfl
theorem wsum_put2 {l : List UInt8} {k : Nat} {n : Int} (hk : k % 2 = 0) (h : k + 2 ≤ l.length) (h0 : 0 ≤ n) (h1 : n ≤ 65535) : wsum (wl (put2 l k n)) = wsum (wl (l.take k)) + n + wsum (wl (l.drop (k + 2))) := by
  have e : (l.take k).length = k := by rw [List.length_take]; omega
  unfold put2
  rw [wsum_even _ _ (by rw [List.length_append, e, beBytes_length]; omega), wsum_even _ _ (by rw [e]; exact hk), wsum_be2]
  omega
theorem put2_put2 {l : List UInt8} {k : Nat} {m n : Int} (h : k + 2 ≤ l.length) : put2 (put2 l k m) k n = put2 l k n := by
  have e : (l.take k).length = k := by rw [List.length_take]; omega
  unfold put2
  rw [List.append_assoc (l.take k) (beBytes 2 m), List.take_left' e, List.append_assoc (l.take k) (beBytes 2 n), List.append_assoc (l.take k) (beBytes 2 n)]
  congr 2
  rw [← List.append_assoc, List.drop_left' (by rw [List.length_append, e, beBytes_length])]
theorem psum_put2 {p a b : Int} {l : List UInt8} {k : Nat} {n : Int} (hk : k % 2 = 0) (h : k + 2 ≤ l.length) (h0 : 0 ≤ n) (h1 : n ≤ 65535) :
    psum p a b (put2 l k n) = fold16 (hsum p a b l.length + (wsum (wl (l.take k)) + wsum (wl (l.drop (k + 2)))) + n) := by
  unfold psum
  rw [put2_length h, wsum_put2 hk h h0 h1]
  congr 1; omega
theorem psum_filled {p a b : Int} {l : List UInt8} {k : Nat} (hp : (place p).2 = true) (ha : 0 ≤ a ∧ a ≤ 4294967295) (hb : 0 ≤ b ∧ b ≤ 4294967295) (hk : k % 2 = 0) (h : k + 2 ≤ l.length) :
    psum p a b (put2 l k (pnum p a b (put2 l k 0))) = 65535 := by
  have hn := pnum_bounds (s := put2 l k 0) hp ha hb
  have hh := hsum_bounds (n := (l.length : Int)) hp ha hb
  have w1 := (wsum_bounds (wl (l.take k))).1
  have w2 := (wsum_bounds (wl (l.drop (k + 2)))).1
  rw [psum_put2 hk h hn.1 hn.2]
  unfold pnum
  rw [psum_put2 hk h (by decide) (by decide)]
  unfold fold16
  (repeat' split) <;> omega
end
/-! ### one byte another one -/
section
open Go.Proofs.Ytfnjohklmpiboaa.Sp Go.Proofs.Ytfnjohklmpiboaa.Pr
end
/-! ### TCP segments -/
section
open Go.Proofs.Ytfnjohklmpiboaa.Sp
theorem tcpBuild_yes {a b c d e f g : Int} {o s : List UInt8} (r : tcpRight a b e f g o = true) (h : 20 + (o.length : Int) + (s.length : Int) ≤ 1500) : tcpBuild a b c d e f g o s = (tcpHead a b c d e f g o ++ o ++ s, 0) := by
  unfold tcpBuild; rw [if_pos r, if_neg (by omega)]
/-- what stands at 12 tells the header's length -/
theorem tcpSize_head {a b c d e f g : Int} {o : List UInt8} (r : tcpRight a b e f g o = true) (q : List UInt8) (hq : q.take 13 = (tcpHead a b c d e f g o).take 13) : tcpSize q = 20 + o.length := by
  obtain ⟨_, _, _, _, hf, ho, _⟩ := tcpRight_iff.1 r
  have hl : 12 < q.length := by
    have h1 : (q.take 13).length = 13 := by rw [hq]; rfl
    rw [List.length_take] at h1; omega
  have h12 : q[12] = UInt8.ofNat ((4096 * ((20 + (o.length : Int)) / 4) + e) / 256 % 256).toNat := by
    have h2 : (q.take 13)[12]? = ((tcpHead a b c d e f g o).take 13)[12]? := by rw [hq]
    rw [List.getElem?_take, if_pos (by omega), List.getElem?_eq_getElem hl] at h2
    have h3 : ((tcpHead a b c d e f g o).take 13)[12]? = some (UInt8.ofNat ((4096 * ((20 + (o.length : Int)) / 4) + e) / 256 % 256).toNat) := rfl
    rw [h3] at h2
    exact Option.some.inj h2
  unfold tcpSize
  rw [dif_pos hl, h12, UInt8.toNat_ofNat']
  omega
theorem be2_of {n : Int} (h : fits 2 n = true) : beNum (beBytes 2 n) = n := by have := fits2.1 h; exact beNum_beBytes 2 n this.1 (by omega)
theorem be4_of {n : Int} (h : 0 ≤ n ∧ n ≤ 4294967295) : beNum (beBytes 4 n) = n := beNum_beBytes 4 n h.1 (by omega)
/-! ### IPv4 -/
/-- a text with its check in it, at an even place -/
theorem sum_checked {L : List UInt8} {k : Nat} (hk : k % 2 = 0) (h : k + 2 ≤ L.length) (e : put2 L k 0 = L) : sum (put2 L k (check L)) = 65535 := by
  have hc : 0 ≤ check L ∧ check L ≤ 65535 := by have := sum_bounds L; unfold check; omega
  have h0 : wsum (wl L) = wsum (wl (put2 L k 0)) := by rw [e]
  have w1 := (wsum_bounds (wl (L.take k))).1
  have w2 := (wsum_bounds (wl (L.drop (k + 2)))).1
  rw [wsum_put2 hk h (by decide) (by decide)] at h0
  unfold sum
  rw [wsum_put2 hk h hc.1 hc.2]
  unfold check sum
  rw [h0]
  unfold fold16
  (repeat' split) <;> omega
theorem ip4Full_sum (t i f g l p a b : Int) (o : List UInt8) (T : Int) : sum (ip4Full t i f g l p a b o T) = 65535 :=
  sum_checked (L := ip4Head t i f g l p a b o T 0) (k := 10) (by decide) (by rw [ip4Head_length]; omega) rfl
theorem ip4Build_yes {t i f g l p a b : Int} {o s : List UInt8} (r : ip4Right t i f g l p o = true) (h : 20 + (o.length : Int) + (s.length : Int) ≤ 1500) : ip4Build t i f g l p a b o s = (ip4Full t i f g l p a b o (20 + (o.length : Int) + (s.length : Int)) ++ s, 0) := by
  unfold ip4Build; rw [if_pos r, if_neg (by omega)]
theorem be1_of {n : Int} (h : 0 ≤ n ∧ n ≤ 255) : beNum (beBytes 1 n) = n := beNum_beBytes 1 n h.1 (by omega)
theorem be2_in {n : Int} (h : 0 ≤ n ∧ n ≤ 65535) : beNum (beBytes 2 n) = n := beNum_beBytes 2 n h.1 (by omega)
theorem ip4B0_head {t i f g l p a b : Int} {o : List UInt8} (ho : o.length ≤ 40) (T ck : Int) (z : List UInt8) : ip4B0 (ip4Head t i f g l p a b o T ck ++ z) = 64 + (20 + (o.length : Int)) / 4 := by
  have h : ip4B0 (ip4Head t i f g l p a b o T ck ++ z) = ((UInt8.ofNat ((64 + (20 + (o.length : Int)) / 4) % 256).toNat).toNat : Int) := rfl
  rw [h, UInt8.toNat_ofNat']; omega
theorem ip4Len_head {t i f g l p a b : Int} {o : List UInt8} (ho : o.length ≤ 40 ∧ o.length % 4 = 0) (T ck : Int) (z : List UInt8) : ip4Len (ip4Head t i f g l p a b o T ck ++ z) = 20 + (o.length : Int) ∧ ip4B0 (ip4Head t i f g l p a b o T ck ++ z) / 16 = 4 := by
  unfold ip4Len
  rw [ip4B0_head ho.1]; omega
theorem ip4Tot_head {t i f g l p a b : Int} {o : List UInt8} (T ck : Int) (hT : 0 ≤ T ∧ T ≤ 65535) (z : List UInt8) : ip4Tot (ip4Head t i f g l p a b o T ck ++ z) = T := by
  unfold ip4Tot
  have hl := ip4Head_length t i f g l p a b o T ck
  have e : ((ip4Head t i f g l p a b o T ck ++ z).drop 2).take 2 = beBytes 2 T := rfl
  have := get2 (ip4Head t i f g l p a b o T ck ++ z) 2 (by rw [List.length_append]; omega)
  rw [e] at this
  rw [show get (ip4Head t i f g l p a b o T ck ++ z) 2 2 = _ from this]; exact be2_in hT
theorem ip4Sizes_head {t i f g l p a b : Int} {o : List UInt8} (ho : o.length ≤ 40 ∧ o.length % 4 = 0) (T ck : Int) (z : List UInt8) (h0 : 20 + (o.length : Int) ≤ T) (h1 : T ≤ 1500) (h2 : T ≤ 20 + (o.length : Int) + (z.length : Int)) : ip4Sizes (ip4Head t i f g l p a b o T ck ++ z) = (20 + (o.length : Int), T, 0) := by
  have hl : (ip4Head t i f g l p a b o T ck ++ z).length = 20 + o.length + z.length := by rw [List.length_append, ip4Head_length]
  have hL := ip4Len_head (t := t) (i := i) (f := f) (g := g) (l := l) (p := p) (a := a) (b := b) ho T ck z
  unfold ip4Sizes
  rw [hL.1, ip4Tot_head T ck (by omega) z, hl, if_neg (by omega), if_neg (by rw [hL.2]; exact fun h => h rfl), if_neg (by omega), if_neg (by omega), if_neg (by omega)]
theorem ip4Fields_head {t i f g l p a b : Int} {o : List UInt8} (r : ip4Right t i f g l p o = true) (ha : 0 ≤ a ∧ a ≤ 4294967295) (hb : 0 ≤ b ∧ b ≤ 4294967295) (T ck : Int) (z : List UInt8) :
    ip4Fields (ip4Head t i f g l p a b o T ck ++ z) (20 + (o.length : Int)) T = ⟨t, i, f, g, l, p, a, b, o, ((ip4Head t i f g l p a b o T ck ++ z).take T.toNat).drop (20 + (o.length : Int)).toNat, 0⟩ := by
  obtain ⟨r0, r1, r2, r3, r4, r5, ho, _⟩ := ip4Right_iff.1 r
  have hl := ip4Head_length t i f g l p a b o T ck
  obtain ⟨q, hq⟩ : ∃ q, ip4Head t i f g l p a b o T ck ++ z = q := ⟨_, rfl⟩
  have hql : q.length = 20 + o.length + z.length := by rw [← hq, List.length_append, hl]
  have g1 : get q 1 1 = (t, true) := by
    have e : (q.drop 1).take 1 = beBytes 1 t := by rw [← hq]; rfl
    have := get1 q 1 (by omega); rw [e, be1_of r0] at this; exact this
  have g4 : get q 4 2 = (i, true) := by
    have e : (q.drop 4).take 2 = beBytes 2 i := by rw [← hq]; rfl
    have := get2 q 4 (by omega); rw [e, be2_in r1] at this; exact this
  have g6 : get q 6 2 = (f * 8192 + g, true) := by
    have e : (q.drop 6).take 2 = beBytes 2 (f * 8192 + g) := by rw [← hq]; rfl
    have := get2 q 6 (by omega); rw [e, be2_in (by omega)] at this; exact this
  have g8 : get q 8 1 = (l, true) := by
    have e : (q.drop 8).take 1 = beBytes 1 l := by rw [← hq]; rfl
    have := get1 q 8 (by omega); rw [e, be1_of r4] at this; exact this
  have g9 : get q 9 1 = (p, true) := by
    have e : (q.drop 9).take 1 = beBytes 1 p := by rw [← hq]; rfl
    have := get1 q 9 (by omega); rw [e, be1_of r5] at this; exact this
  have g12 : get q 12 4 = (a, true) := by
    have e : (q.drop 12).take 4 = beBytes 4 a := by rw [← hq]; rfl
    have := get4 q 12 (by omega); rw [e, be4_of ha] at this; exact this
  have g16 : get q 16 4 = (b, true) := by
    have e : (q.drop 16).take 4 = beBytes 4 b := by rw [← hq]; rfl
    have := get4 q 16 (by omega); rw [e, be4_of hb] at this; exact this
  have ht : q.take (20 + (o.length : Int)).toNat = ip4Head t i f g l p a b o T ck := by
    rw [← hq]; exact List.take_left' (by rw [hl]; omega)
  have hd : (ip4Head t i f g l p a b o T ck).drop 20 = o := rfl
  unfold ip4Fields
  rw [hq, g1, g4, g6, g8, g9, g12, g16, ht, hd]
  have x1 : (f * 8192 + g) / 8192 = f := by omega
  have x2 : (f * 8192 + g) % 8192 = g := by omega
  rw [x1, x2]
/-- what is built is parsed as it was, with anything behind -/
theorem ip4Parse_full {t i f g l p a b : Int} {o s : List UInt8} (r : ip4Right t i f g l p o = true) (ha : 0 ≤ a ∧ a ≤ 4294967295) (hb : 0 ≤ b ∧ b ≤ 4294967295) (h : 20 + (o.length : Int) + (s.length : Int) ≤ 1500) (more : List UInt8) :
    ip4Parse (ip4Full t i f g l p a b o (20 + (o.length : Int) + (s.length : Int)) ++ s ++ more) = ⟨t, i, f, g, l, p, a, b, o, s, 0⟩ := by
  obtain ⟨_, _, _, _, _, _, ho, hok⟩ := ip4Right_iff.1 r
  obtain ⟨T, hT⟩ : ∃ T, 20 + (o.length : Int) + (s.length : Int) = T := ⟨_, rfl⟩
  have hsum := ip4Full_sum t i f g l p a b o T
  have hfl := ip4Full_length t i f g l p a b o T
  rw [hT]
  unfold ip4Full at hsum hfl ⊢
  obtain ⟨ck, hck⟩ : ∃ ck, check (ip4Head t i f g l p a b o T 0) = ck := ⟨_, rfl⟩
  rw [hck] at hsum hfl ⊢
  rw [List.append_assoc]
  have hz := ip4Sizes_head (t := t) (i := i) (f := f) (g := g) (l := l) (p := p) (a := a) (b := b) ho T ck (s ++ more) (by omega) (by omega) (by rw [List.length_append]; omega)
  have hL := (ip4Len_head (t := t) (i := i) (f := f) (g := g) (l := l) (p := p) (a := a) (b := b) ho T ck (s ++ more)).1
  have hTt := ip4Tot_head (t := t) (i := i) (f := f) (g := g) (l := l) (p := p) (a := a) (b := b) (o := o) T ck (by omega) (s ++ more)
  have htk : (ip4Head t i f g l p a b o T ck ++ (s ++ more)).take (20 + (o.length : Int)).toNat = ip4Head t i f g l p a b o T ck := List.take_left' (by rw [hfl]; omega)
  have hd : (ip4Head t i f g l p a b o T ck).drop 20 = o := rfl
  unfold ip4Parse
  rw [hz, if_pos rfl, hL, htk, if_pos hsum, hd, if_pos hok, hTt, ip4Fields_head r ha hb]
  have hb2 : ((ip4Head t i f g l p a b o T ck ++ (s ++ more)).take T.toNat).drop (20 + (o.length : Int)).toNat = s := by
    rw [← List.append_assoc, List.take_left' (by rw [List.length_append, hfl]; omega), List.drop_left' (by rw [hfl]; omega)]
  rw [hb2]
end
end Go.Proofs.Ytfnjohklmpiboaa.Lem
